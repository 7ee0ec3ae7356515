/- Parts of the proof, one behind the other. -/
import Derived.Test.YtpdfmnhgocpkcaaGreatTM2
import Derived.Test.YtpdfmnhgocpkcaaGreatXwM3
import Derived.Test.YtpdfmnhgocpkcaaGreatXwM4
import Derived.Test.YtpdfmnhgocpkcaaGreatAwM2
namespace Go.Proofs.YtpdfmnhgocpkcaaGreat
open Go Go.Proofs.Aw Go.Proofs.Xw
set_option maxRecDepth 100000
def bm1 (ty : TypeId) : List Oper := [⟨some 2, .assign (.const (.slice none 0 0)), ty, "slices.go:355", #[], none⟩]
def bm0 (ty : TypeId) : List Oper := [⟨some 3, .move (.tmp 0), ty, "slices.go:357", #[], none⟩, ⟨some 4, .binOp .eql ty (.tmp 3) (.const (.slice none 0 0)) ty, 4, "slices.go:357", #[⟨0, .data⟩], none⟩]
def b31 (ty : TypeId) : List Oper := [⟨some 2, .assign (.const (.slice none 0 0)), ty, "slices.go:358", #[], none⟩]
def bl9 (ty : TypeId) : List Oper := [⟨some 5, .buildSlice ty 0 #[], ty, "slices.go:362", #[], none⟩, ⟨some 6, .move (.tmp 0), ty, "slices.go:362", #[], none⟩,
 ⟨some 7, .call ⟨.builtin .append, #[.tmp 5, .tmp 6], #[ty, ty]⟩, ty, "slices.go:362", #[⟨0, .data⟩, ⟨1, .data⟩], none⟩,
 ⟨some 2, .assign (.tmp 7), ty, "slices.go:362", #[⟨2, .data⟩, ⟨2, .chain⟩, ⟨0, .phase⟩, ⟨1, .phase⟩, ⟨2, .phase⟩], none⟩]
def clB (ty:TypeId):Code :=
 .seq (.region 0 (bm1 ty).toArray false) (.seq (.seq (.region 1 (bm0 ty).toArray false) (.cond (.tmp 4) (.seq (.region 2 (b31 ty).toArray false) .ret) .skip)) (.seq (.region 3 (bl9 ty).toArray false) .ret))
theorem Vl {P:Program} {E:Env} {ty e:TypeId} {z:Nat} {v r:AV} {b:Bool} (hN:E.N=8) (hs:jU P ty=some (e,z)) (hz:sZ P e=some z) (hn:kV P [] .eql ty v (.sc (.slice none 0 0))=some (.sc (.bool b)))
  (h1:b=true->r = .sc (.slice none 0 0)) (h2:b=false->∃fs,fA [] z v=some fs/\fs.length*dA P e<=140737488355328/\fs.length<=9223372036854775807/\r = .ro z fs false) :
  AW P E (clB ty) (aN3 P [.tmp 2] r) ⟨slots 0 [v],[],0⟩:=by
 unfold clB
 refine qF fun K hK=>yB [] (by rw[hN];rfl) ?_
 unfold bm1
 rw[kN]
 refine hK _ ?_
 refine qF fun K hK=>qF fun K1 hK1=>yB [] (by rw[hN];rfl) ?_
 unfold bm0
 rw[kN]
 show PS P [] _ _ K1 _ _ _
 rw[kN]
 show qf P _ _ (eu (kV P [] .eql ty v (.sc (.slice none 0 0)))) _
 rw[hn]
 refine hK1 _ (D6 (b:=b) rfl (fun hb => ?_) (fun hb => ?_))
 ·refine qF fun K2 hK2=>yB [] (by rw[hN];rfl) ?_
  unfold b31
  rw[kN]
  refine hK2 _ (Me ?_)
  refine⟨.inl rfl,?_⟩
  rw[h1 hb]
  rfl
 ·refine Md (hK _ ?_)
  obtain⟨fs,g1,g2,g3,g4⟩:=h2 hb
  refine qF fun K2 hK2=>yB [] (by rw[hN];rfl) ?_
  unfold bl9
  rw[kN]
  have e1:fK P 3 false ty 0 []=some (.ro z [] true,[]):=by
   unfold fK
   rw[hs]
   simp only[hz,qj]
   rw[if_pos ⟨trivial,by omega,rfl,trivial⟩]
   rfl
  show qf P _ _ (qg (fK P 3 false ty 0 [])) _
  rw[e1]
  show PS P [] _ _ K2 _ _ _
  rw[kN]
  show PS P [] _ _ K2 _ _ _
  rw[kN]
  have e2:lK P 5 [] false ty ty (.ro z [] true) v=some (.ro z fs false,[]):=by
   unfold lK
   rw[hs]
   simp only[hz,g1,and_self,if_true,PX,jX,apO]
   rw[if_pos ⟨by simpa using g2,by simpa using g3,fun h=>nomatch h⟩]
   rfl
  show qf P _ _ (qg (lK P 5 [] false ty ty (.ro z [] true) v)) _
  rw[e2]
  show PS P [] _ _ K2 _ _ _
  rw[kN]
  refine hK2 _ (Me ⟨.inl rfl,?_⟩)
  rw[g4]
  rfl
theorem Gu {P:Program} {ty:TypeId} {v:AV} (h:∀k i,v ≠ .sc (.int k i)):qC P .eql ty v (.sc (.slice none 0 0))=none:=by
 unfold qC
 split<;>simp_all
theorem aS7 {P:Program} {f:FuncId} {fn:Func} {ty e:TypeId} {z:Nat} (hf:P.funcs[f]? = some fn) (hb:fn.body=some (clB ty)) (hr:fn.results.toList=[.tmp 2]) (hN:fn.ntmps=8) (hB:aQ P f=true) (hs:jU P ty=some (e,z)) (hz:sZ P e=some z):SB P (f,z):=by
 refine⟨hB,fun full n h => ?_⟩
 have run:∀(A:Option Addr) (cap:Nat) (r:AV),nms (fun _=>false) r=true->(A.isNone=true->r = .sc (.slice none 0 0))->(A.isNone=false->r = .ro z [] false)->CY P n f [.sc (.slice A 0 cap)] h r []:=fun A cap r hr' h1 h2 =>
  GH hf hb (by rw[hN];show 1<=8;decide) rfl hr' (fun E hE _ _=>by
   rw[hr]
   refine Vl (b:=A.isNone) (by rw[hE,hN]) hs hz ?_ h1 fun hb=>⟨[],rfl,by simp,by simp,h2 hb⟩
   unfold kV
   rw[Gu (fun k i h=>by cases h)]
   simp only[xG,hs,AO]) n h
 intro C vs hh hL hn
 obtain⟨u,us,rfl,hu,hus⟩:=hL
 simp only[ConcL]at hus
 subst hus
 obtain⟨A,cap,rfl,h1,h2,_⟩:=iw.1 hu
 have hL':ConcL C [.sc (.slice A 0 cap)] [.slice A 0 cap]:=⟨_,_,rfl,rfl,rfl⟩
 cases A with
 | none =>
  refine(run none cap (.sc (.slice none 0 0)) rfl (fun _=>rfl) (fun h=>by cases h) C _ hh hL' hn).mono ?_
  rintro e' w' ⟨u,C',h3,h4,hp⟩
  have hv:u = .slice none 0 0:=hp.val
  exact⟨u,C',h3,h4,{ hp with val:=iw.2 ⟨none,0,hv,Nat.le_refl _,fun h=>(nomatch h),fun h=>absurd rfl h⟩ }⟩
 | some a=>exact run (some a) cap (.ro z [] false) rfl (fun h=>by cases h) (fun _=>rfl) C _ hh hL' hn
theorem b34:SB Tryz.prog (48,1):=aS7 (fn:=Tryz.f48) (ty:=25) (e:=9) Tryz.func48 rfl rfl rfl (by kernel_rfl) (by kernel_rfl) (by kernel_rfl)
theorem b33:SB Tryz.prog (49,22):=aS7 (fn:=Tryz.f49) (ty:=67) (e:=74) Tryz.func49 rfl rfl rfl (by kernel_rfl) (by kernel_rfl) (by kernel_rfl)
def cls:List (Nat×Nat):=[(48,1),(49,22)]
theorem RG:∀k∈cls,SB Tryz.prog k:=List.forall_mem_cons.2 ⟨b34,List.forall_mem_cons.2 ⟨b33,List.forall_mem_nil _⟩⟩
end Go.Proofs.YtpdfmnhgocpkcaaGreat
namespace Go.Proofs.YtpdfmnhgocpkcaaGreat
open Go Go.Proofs.Aw Go.Proofs.Xw
set_option maxRecDepth 100000
def xi (v:Nat):X := .sc (.i .i64 (.var v))
def xb (v:Nat):X := .sc (.b (.var v))
def xs (v:Nat):X := .sc (.s (.var v))
def xl (b:Bool):X := .sc (.b (.lit b))
def xn (n:Int):X := .sc (.i .i64 (.lit n))
def vi (k n:Nat):List X:=(List.range n).map fun j=>xi (k+j)
def CG (k n:Nat) (r:AL):AL:=(List.range n).foldr (fun j r => .i (.var (k+j)) r) r
def Jq (k:Nat):AL:=CG k 10 (.b (.var (k+10)) (.i (.var (k+11)) (.i (.var (k+12)) .nil)))
def Pe (k:Nat):List X:=vi k 10++[xb (k+10)]++vi (k+11) 2
def VB (k:Nat):AL:=CG k 6 (.s (.var (k+6)) (.s (.var (k+7)) (.b (.var (k+8)) (CG (k+9) 11 .nil))))
def enX (k:Nat):List X:=vi k 6++[xs (k+6),xs (k+7),xb (k+8)]++vi (k+9) 11
def plX (a b:Nat):X := .sc (.c (.var a) (.lit false) (.var b) (.lit false))
def uI (k j:Nat) (a:AL):X := .sc (.i .i64 (.uf k j a))
def uB (k:Nat) (a:AL):X := .sc (.b (.eq (.uf k 0 a) (.lit 1)))
def uP (k:Nat) (a:AL):X := .sc (.c (.uf k 0 a) (.lit false) (.uf k 1 a) (.lit false))
def ib (e:IE) (lo hi:Int):BE := .and (.not (.lt e (.lit lo))) (.not (.lt (.lit hi) e))
def aOf:AL := .s (.var 0) (.i (.var 1) .nil)
def preOf:BE := .and (.not (.lt (.lit 1000000) (.slen (.var 0)))) (ib (.var 1) 1 3)
def sOf (f:Nat):Sm:=⟨f,[xs 0,xi 1],uI 0 0 aOf,preOf⟩
def sRt (f:Nat):Sm:=⟨f,[.agg (Pe 0)],uB 1 (Jq 0),.lit true⟩
def sRe (f:Nat):Sm:=⟨f,[.agg (enX 0)],uB 2 (VB 0),.lit true⟩
def sPa (f:Nat):Sm:=⟨f,[.ro 20 [enX 0] false],.agg ((List.range 9).map fun j=>uI 3 j (VB 0)),.eq (.uf 2 0 (VB 0)) (.lit 1)⟩
def mgR:X := .agg ((List.range 9).map fun j => .sc (.i .i64 (.op .max .i64 (.op .max .i64 (.lit 0) (.var j)) (.var (9+j)))))
def sMg:Sm:=⟨29,[.ro 9 [vi 0 9,vi 9 9] false],mgR,.lit true⟩
def sTw:Sm:=⟨113,[.agg (vi 0 9),.agg (vi 9 9)],mgR,.lit true⟩
def sNo (f:Nat):Sm:=⟨f,[xi 0,xi 1,xi 2],uP 4 (CG 0 3 .nil),.and (ib (.var 0) 0 2) (.and (ib (.var 1) 0 2) (ib (.var 2) 0 3))⟩
def sHo (f:Nat):Sm:=⟨f,[xi 0,xi 1],uP 5 (CG 0 2 .nil),.and (ib (.var 0) 0 2) (ib (.var 1) 0 3)⟩
def sFa (f:Nat):Sm:=⟨f,[plX 0 1,plX 2 3],uI 6 0 (CG 0 4 .nil),.and (ib (.var 0) (-16384) 16384) (.and (ib (.var 1) (-16384) 16384) (.and (ib (.var 2) (-16384) 16384) (ib (.var 3) (-16384) 16384)))⟩
def sHd (f:Nat):Sm:=⟨f,[.agg (Pe 0)],.sc (.i .i64 (.ite (.eq (.uf 1 0 (Jq 0)) (.lit 1)) (.var 2) (.lit (-1)))),.lit true⟩
def sLa (f:Nat):Sm:=⟨f,[.agg (Pe 0)],uI 7 0 (Jq 0),.lit true⟩
def bD1 (n:Nat):BE:=(List.range (2*n+2)).foldr (fun k b => .and (ib (.var k) (-16384) 16384) b) (.lit true)
def sNe (f n:Nat):Sm:=⟨f,[plX 0 1,.ro 1 ((List.range n).map fun k=>[plX (2*k+2) (2*k+3)]) false],uI 8 0 (CG 0 (2*n+2) .nil),bD1 n⟩
def JM:List Sm:=[sOf 33,sOf 104,sRt 97,sRt 105,sRe 28,sRe 81,sPa 24,sPa 114,sMg,sTw,sNo 36,sNo 108,sHo 34,sHo 110,sFa 35,sFa 135,sHd 27,sHd 77,sLa 94,sLa 107]++([1,2,3,4].map (sNe 92)++[1,2,3,4].map (sNe 109))
end Go.Proofs.YtpdfmnhgocpkcaaGreat
namespace Go.Proofs.YtpdfmnhgocpkcaaGreat
open Go Go.Proofs.Aw Go.Proofs.Xw
set_option maxRecDepth 100000
def kI:Nk := .f (.i .i64)
def kS:Nk := .f .s
def kB:Nk := .f .b
def kaA:List Nk:=[kI,kI,.r 1 194 [.s],kS,kI,kI,kI,kI,kI,kI,kI,kI,kI,kI,kI,kI,kI,kI,kI,kI,kI,kI,kI,kI,kI,kI,kI,kI,kI,kB,kI,kI,kI,kI,kI,kI,kI,kI,kS,kS,kB,kI,kI,kI,kI,kI,kI,kI,kI,kI,kI,kI,kB,kS,kS,kB,kB,kI,kI,kI,kI,kI,kI,kI,kI,kI,kI,kI,kI,kI,kI,kI,kI,kI,kI,kI,kI,kI,kI]
def scX:X := .rn 79 (.len 2) 2 kaA false
noncomputable def lpA:Nat->List LoopX:=fun f=>if Nat.beq f 14=true then [hvL ((bW (((dw (Tryz.f14.body.getD .skip))[0]?).getD .skip)).getD 0) 13 36]else []
def ly:List X:=vi 0 4
def nO (e:Nm):X := .slv e 20 (.lit 0) (.len 460) true
def Vb:List X:=[.tk 20 (.len 460) 460 []]
def tpX (n:Nat):List X:=List.replicate n .top
def nlP:X := .k (.pointer none)
def cO (busy asked:Bool) (ks rng tx:X) (ev:X):List X :=
 ly++[xi 4,xi 401,xi 402]++[xi 403,xi 404]++vi 405 9++[xl busy]++(if busy=true then [xi 414,ks,xs 450,xi 415,xi 416,xi 417,xl asked,xb 441]else tpX 8)++Pe 418++(if busy=true then [rng,tx]else [.top,.top])++[ev]
def dO (busy asked:Bool) (ks at_ tx:X) (ev:X):List X :=
 ly++[xi 4,xi 401,xi 402,xi 404]++vi 405 9++[xl busy]++(if busy=true then [xi 414,ks,xs 450,xi 415,tx,at_]else tpX 6)++[xi 403]++(if busy=true then [xi 416,xi 417,xl asked,xb 441]else tpX 4)++Pe 418++[ev,.top]
def hp (p q e:Nat) (busy asked:Bool) (kc kd rng at_ tx ty:X) (h:bg):bg:=[((p,0),cO busy asked kc rng tx (nO (e,0))),((e,0),Vb),((q,0),dO busy asked kd at_ ty (nO (e,1))),((e,1),Vb)]++h
def k1X:X := .rl 1 (.len 470) (.var 470 [.s]) false
def rgX:X:=uI 0 0 (.s (.cl 470 0 (.lit 0)) (.i (.var 1) .nil))
def tI (p q sc sd si:Nat) (r:ig):ig:=[(sc,.ptr (p,0) [] 0),(sd,.ptr (q,0) [] 0),(si,xi 400)]++r
def rQ:Facts:=[(.lt (.var 0) (.lit 1),false),(.lt (.lit 3) (.var 0),false),(.lt (.var 1) (.lit 1),false),(.lt (.lit 3) (.var 1),false),(.lt (.var 4) (.lit 0),false),(.lt (.lit 3) (.var 4),false),(.lt (.lit 250) (.len 2),false)]
def hdF:Facts:=rQ++[(.lt (.var 400) (.lit 0),false),(.lt (.len 2) (.var 400),false),(.lt (.var 401) (.lit 0),false),(.lt (.var 401) (.var 0),true),(.lt (.lit 2) (.var 401),false),(.lt (.var 404) (.lit 0),false),(.lt (.var 402) (.lit 0),false),(.lt (.lit 1099511627776) (.var 402),false),(.lt (.var 400) (.len 460),false)]
def kdF:Facts:=[(.lt (.var 414) (.lit 1),false),(.lt (.lit 3) (.var 414),false),(.eq (.len 470) (.lit 1),true),(.lt (.lit 16) (.slen (.cl 470 0 (.lit 0))),false)]
def sI (p q e:Nat) (t:ig):XS:=⟨t,hp p q e false false .top .top .top .top .top .top [],e+1⟩
def sB (asked:Bool) (p q e:Nat) (t:ig):XS:=⟨t,hp p q e true asked k1X k1X rgX .top nlP .top [],e+1⟩
def i1:IE := .op .add .i64 (.var 400) (.lit 1)
def hyR:BE×Facts:=(.and (.lt (.var 400) (.len 2)) (.and (.not (.lt (.lit 250) (.len 2))) (.and (.not (.lt (.var 400) (.lit 0))) (.not (.lt (.var 400) (.len 460))))),
 [(.lt i1 (.lit 0),false),(.lt (.len 2) i1,false),(.lt i1 (.len 460),false),(.lt i1 (fC (.len 460) (.lit 1)),false),(.lt i1 (.lit 1),false),(.lt (.lit 300) (.len 460),false)])
def nzE:List Nat:=[0,0,0,1,0,0,0,0,0,0,22,0,0,0,0,0,0,0,0,0]
end Go.Proofs.YtpdfmnhgocpkcaaGreat
namespace Go.Proofs.YtpdfmnhgocpkcaaGreat
open Go Go.Proofs.Aw Go.Proofs.Xw
set_option maxRecDepth 100000
def cA (k:Nat):IE := .cl 2 k (.var 400)
def cM (k:Nat):IE := .cl 2 (5+k) (.var 400)
def bM (k:Nat):BE := .cl 2 (5+k) (.var 400)
def aJ (e:IE) (n:Int):BE := .eq e (.lit n)
def iH (e:IE) (n:Int):BE := .lt e (.lit n)
def Fz (e:IE) (n:Int):BE := .lt (.lit n) e
def kyE:TE := .cl 194 0 (.cl 2 2 (.var 400))
def vaE:TE := .cl 2 3 (.var 400)
def up (k:Nat):IE := .op .add .i64 (.var k) (.lit 1)
def alM:AL:=(List.range 10).foldr (fun j r => .i (cM (14+j)) r) (.b (bM 24) (.i (cM 25) (.i (cM 26) .nil)))
def alN:AL:=(List.range 6).foldr (fun j r => .i (cM (27+j)) r) (.s (.cl 2 38 (.var 400)) (.s (.cl 2 39 (.var 400)) (.b (bM 35) ((List.range 11).foldr (fun j r => .i (cM (36+j)) r) .nil))))
def hyV:BE×Facts:=(.seq vaE (.lit ⟨#[]⟩),[(Fz (.slen vaE) 32,false)])
def hyC (a:AL) (g:Nat->IE):BE×Facts:=(.eq (.uf 1 0 a) (.lit 1),[(iH (g 1) 1,false),(Fz (g 1) 4,false),(iH (g 2) 0,false),(Fz (g 2) 3,false)])
def hyN (a:AL) (g:Nat->IE) (n:Nat):BE×Facts:=(.and (.eq (.uf 1 0 a) (.lit 1)) (aJ (g 1) n),(List.range n).flatMap fun k=>[(iH (g (2+2*k)) 0,false),(Fz (g (2+2*k)) 3,false)])
def hyM:BE×Facts:=(.and (.not (.eq (up 431) (.var 1))) (.and (.and (.lt (.var 431) (.var 1)) (.not (.lt (.var 431) (.lit 0)))) (.not (.lt (.lit 3) (.var 1)))),[(.lt (up 431) (.var 1),true),(.lt (.lit 2) (up 431),false),(.lt (fC (.var 431) (.lit 1)) (.var 1),true),(.lt (.lit 2) (fC (.var 431) (.lit 1)),false),(.lt (fC (.var 431) (.lit 1)) (.lit 0),false)])
def hyL:BE×Facts:=(.eq (up 431) (.var 1),[(.lt (up 431) (.var 1),false)])
def hyE:BE×Facts:=(.and (.lt (.var 400) (.len 2)) (.and (.not (.lt (.lit 250) (.len 2))) (.not (.lt (.var 400) (.lit 0)))),[(.lt i1 (.lit 0),false),(.lt (.len 2) i1,false),(.lt i1 (.lit 1),false)])
def hyD:BE×Facts:=(.and (.lt (cA 4) (.var 0)) (.not (.lt (.lit 3) (.var 0))),[(.lt (.lit 2) (cA 4),false)])
def gM:Nat->IE:=fun k=>cM (14+k)
def Qk:List (BE×Bool)->DT->DT
 | [],d=>d
 | (c,true)::r,d => .br c (Qk r d) .leaf
 | (c,false)::r,d => .br c .leaf (Qk r d)
def opD:DT := .br (iH (.var 402) 1099511627776) .leaf .leaf
def aa8:List (BE×Bool):=[(iH (cA 1002) 1,false),(Fz (cA 1002) 1,false),(iH (.slen kyE) 1,false),(Fz (.slen kyE) 16,false)]
def bx5:DT := .br (iH (up 417) 24) (.br (iH (up 416) 2) .leaf .leaf) .leaf
def BU (rng:IE) (n:Nat):IE :=
 let h:AL := .i (.var 401) (.i (.var 4) .nil)
 let p:Nat->AL:=fun k => .i (.var 401) (.i rng (.i (gM (2+2*k)) .nil))
 .uf 8 0 (.i (.uf 5 0 h) (.i (.uf 5 1 h) ((List.range n).foldr (fun k r => .i (.uf 4 0 (p k)) (.i (.uf 4 1 (p k)) r)) .nil)))
def aQ8 (rng:IE):Nat->DT
 | 1 => .leaf
 | 2 => .br (iH (BU rng 2) 1) .leaf .leaf
 | 3 => .br (iH (BU rng 3) 1) .leaf (.br (iH (BU rng 3) 2) .leaf .leaf)
 | _ => .br (iH (BU rng 4) 1) .leaf (.br (iH (BU rng 4) 2) .leaf (.br (iH (BU rng 4) 3) .leaf .leaf))
def XO (rng:IE) (n:Nat):BE×Facts:=(.lit true,[(Fz (BU rng n) (n-1:Int),false)])
def byN (n:IE) (f:Nat->DT):DT := .br (iH n 2) (f 1) (.br (iH n 3) (f 2) (.br (iH n 4) (f 3) (f 4)))
def getD (rng:IE) (x:Nat):DT:=byN (gM 1) fun n => .brH (1+n) (.brH (x+n) (.br (bM 24) (aQ8 rng n) (aQ8 rng n)) .leaf) .leaf
def rgE:IE := .uf 0 0 (.s (.cl 470 0 (.lit 0)) (.i (.var 1) .nil))
def wrD (d:DT):DT := .br (.eq (.uf 2 0 alN) (.lit 1)) d .leaf
def doneD:DT := .br (iH (.var 414) 3) (Qk [(aJ (cM 73) 0,true),(bM 47,true)] (wrD (.br (iH (.var 414) 2) .leaf .leaf))) .leaf
def bU7 (rng:IE):DT := .br (.var 441) .leaf (Qk [(aJ (cM 1) 1,true),(.eq (cM 2) (.var 401),true),(.eq (cM 3) rng,true),(.eq (cM 4) (.uf 7 0 (Jq 418)),true)] .leaf)
def ac6:DT := .brH 7 .leaf (.brH 6 .leaf .leaf)
def hyps:VC:=[hyV,hyC alM gM,hyN alM gM 1,hyN alM gM 2,hyN alM gM 3,hyN alM gM 4,hyM,hyL,XO rgE 1,XO rgE 2,XO rgE 3,XO rgE 4,XO (.var 431) 1,XO (.var 431) 2,XO (.var 431) 3,XO (.var 431) 4,hyD]
def sM (asked:Bool) (p q e:Nat) (t:ig):XS:=⟨t,hp p q e true asked (.ro 1 [] false) (.ro 1 [] false) (xi 431) (xi 431) nlP .top [],e+1⟩
def sE (p q e:Nat) (t:ig):XS:=⟨t,[((p,0),cO false false .top .top .top (.k (.slice none 0 0))),((q,0),dO false false .top .top .top (.k (.slice none 0 0)))],e+1⟩
def mvF:Facts:=[(.lt (.var 431) (.lit 0),false),(.lt (.var 431) (.var 1),true),(.lt (.lit 2) (.var 431),false),(.eq (.var 414) (.lit 5),true)]
def hdE:Facts:=rQ++[(.lt (.var 400) (.lit 0),false),(.lt (.len 2) (.var 400),false),(.lt (.var 401) (.lit 0),false),(.lt (.var 401) (.var 0),true),(.lt (.lit 2) (.var 401),false),(.lt (.var 404) (.lit 0),false),(.lt (.var 402) (.lit 0),false),(.lt (.lit 1099511627776) (.var 402),false)]
def cD9 (p q e:Nat) (t:ig):List Cls:=[⟨sE p q e t,hdE,[]⟩,⟨sI p q e t,hdF,[]⟩,⟨sB false p q e t,hdF++kdF,[]⟩,⟨sB true p q e t,hdF++kdF,[]⟩,
 ⟨sM false p q e t,hdF++mvF,[]⟩,⟨sM true p q e t,hdF++mvF,[]⟩]
def bA1:Facts:=[(iH (cA 1002) 0,false),(Fz (cA 1002) 250,false)]
end Go.Proofs.YtpdfmnhgocpkcaaGreat
namespace Go.Proofs.YtpdfmnhgocpkcaaGreat
open Go Go.Proofs.Aw Go.Proofs.Xw
set_option maxRecDepth 100000
def GI:List Kd:=[.i .i64,.b,.i .i64,.i .i64,.i .i64,.i .i64,.i .i64,.i .i64,.s,.s,.b,.i .i64,.i .i64,.i .i64,.i .i64,.i .i64,.i .i64,.i .i64,.i .i64,.i .i64,.i .i64,.i .i64,.i .i64,.i .i64,.i .i64]
def fE (m:Nm) (z:Nat) (n:IE):X := .slv m z (.lit 0) n true
def tO (e a rd cu:Nat):bg:=[((e,a),vi 405 9++vi cu 9++[xi 1,fE (e,a+1) 1 (.len 470),fE (e,a+2) 25 (.len 470),.slv (e,a+3) 1 (.var 440) (.var 443) true,xn rd,xn 0]),
 ((e,a+1),[.rows 1 (.len 470) (.var 470 [.s])]),((e,a+2),[.rows 25 (.len 470) (.var 472 GI)]),((e,a+3),[.rows 1 (.len 474) (.var 474 [.i .i64])])]
def tD (e a rd cu:Nat):bg:=[((e,a),[xi 1,fE (e,a+1) 1 (.len 470),fE (e,a+2) 25 (.len 470),.slv (e,a+3) 1 (.var 440) (.var 443) true,xn rd]++vi cu 9++[xl false,xn 0]),
 ((e,a+1),[.rows 1 (.len 470) (.var 470 [.s])]),((e,a+2),[.rows 25 (.len 470) (.var 472 GI)]),((e,a+3),[.rows 1 (.len 474) (.var 474 [.i .i64])])]
def todo0:IE := .cl 474 0 (.var 440)
def BJ:IE := .cl 474 0 (fC (.var 440) (.lit 1))
def rtE:IE := .uf 0 0 (.s (.cl 470 0 todo0) (.i (.var 1) .nil))
def rtX:X := .sc (.i .i64 rtE)
def sT (rd cu:Nat) (asked:Bool) (p q e:Nat) (t:ig):XS:=⟨t,hp p q e true asked k1X k1X rtX .top (.ptr (e,2) [] 0) (.ptr (e,6) [] 0) (tO e 2 rd cu++tD e 6 rd cu),e+1⟩
def tnF:Facts:=[(.eq (.var 414) (.lit 4),true),(.lt (.var 443) (.lit 1),false)]
def Y7:Facts:=[(.lt (.len 470) (.lit 1),false),(.lt (.lit 6) (.len 470),false),(.lt (.len 474) (.op .padd .i64 (.var 440) (.var 443)),false),(.lt (.var 440) (.lit 0),false),(.lt (.lit 5) (.var 440),false),(.lt (.var 440) (.len 474),true),(.lt (.var 443) (.lit 1),false),(.lt (.lit 6) (.var 443),false)]
def xN (j:IE):Facts:=[(.lt j (.lit 0),false),(.lt j (.len 470),true),(.lt (.lit 16) (.slen (.cl 470 0 j)),false)]
def G6:BE×Facts:=(.and (.not (.eq (.var 443) (.lit 1))) (.not (.lt (.var 443) (.lit 1))),[(.lt (.var 443) (.lit 2),false)])
def bH:VC:=hyps++[XO rtE 1,XO rtE 2,XO rtE 3,XO rtE 4,G6]
def aI (e:IE):Sc := .i .i64 e
def YC (has:Bool):List Sc:=[aI (.lit 0),.b (bM 47)]++(if has=true then(List.range 6).map (fun k=>aI (cM (27+k)))++[.s (.cl 2 38 (.var 400)),.s (.cl 2 39 (.var 400)),.b (bM 35)]++(List.range 11).map (fun k=>aI (cM (36+k)))
 else List.replicate 6 (aI (.lit 0))++[.s (.lit ⟨#[]⟩),.s (.lit ⟨#[]⟩),.b (.lit false)]++List.replicate 11 (aI (.lit 0)))++[aI (cM 70),aI (cM 71),aI (cM 72)]
def mM (has:Bool):RL := .upd todo0 (YC has) (.var 472 GI)
def DK:List Kd:=[.s,.b]++List.replicate 6 (.i .i64)++[.s,.s,.b]++List.replicate 11 (.i .i64)
def rsX:X := .rl 22 (.len 470) (.var 630 DK) false
def keR:X := .rl 1 (.len 470) (.var 470 [.s]) false
def tdR:X := .rl 1 (.op .psub .i64 (.var 443) (.lit 1)) (.drop (.op .padd .i64 (.var 440) (.lit 1)) (.var 474 [.i .i64])) false
def gT (has:Bool) (rd cu:Nat):bg:=[((0,0),vi 405 9++vi cu 9++[xi 1,fE (0,1) 1 (.len 470),fE (0,2) 25 (.len 470),.slv (0,3) 1 (.op .padd .i64 (.var 440) (.lit 1)) (.op .psub .i64 (.var 443) (.lit 1)) true,xn rd,xn 0]),
 ((0,1),[.rows 1 (.len 470) (.var 470 [.s])]),((0,2),[.rows 25 (.len 470) (mM has)]),((0,3),[.rows 1 (.len 474) (.var 474 [.i .i64])])]
def gD (has:Bool) (rd cu:Nat):bg:=[((0,0),[xi 1,fE (0,1) 1 (.len 470),fE (0,2) 25 (.len 470),.slv (0,3) 1 (.op .padd .i64 (.var 440) (.lit 1)) (.op .psub .i64 (.var 443) (.lit 1)) true,xn rd]++vi cu 9++[xl true,xn 0]),
 ((0,1),[.rows 1 (.len 470) (.var 470 [.s])]),((0,2),[.rows 25 (.len 470) (mM has)]),((0,3),[.rows 1 (.len 474) (.var 474 [.i .i64])])]
def gR2 (has:Bool):List GK:=[⟨122,[.ptr (0,0) [] 0],gT has 2 500,rsX,UW (gT has 2 500)⟩,⟨116,[.ptr (0,0) [] 0],gD has 2 500,rsX,UW (gD has 2 500)⟩]
def d4 (t k a o:List X):dR:=[((0,0),some t),((0,1),some k),((0,2),some a),((0,3),some o)]
def Dy (again:Bool):X:=if again=true then .slv (1,0) 1 (.lit 0) (.len 610) true else .slv (0,3) 1 (.op .padd .i64 (.var 440) (.lit 1)) (.op .psub .i64 (.var 443) (.lit 1)) true
def n6 (again:Bool):dR:=if again=true then [((1,0),some [.rows 1 (.len 610) (.var 610 [.i .i64])])]else []
def kR:List X:=[.rows 1 (.len 470) (.var 470 [.s])]
def oR:List X:=[.rows 1 (.len 474) (.var 474 [.i .i64])]
def OI (has again:Bool):GK:=⟨120,[.ptr (0,0) [] 0],gT has 1 405,.tup [],
 [((0,0),some (vi 405 9++vi 600 9++[xi 1,fE (0,1) 1 (.len 470),fE (0,2) 25 (.len 470),Dy again,xn (if again=true then 2 else 1),xn 0])),((0,1),some kR),((0,2),some [.rows 25 (.len 470) (mM has)]),((0,3),if again=true then none else some oR)]++n6 again⟩
def gD0:bg:=[((0,0),[xi 1,fE (0,1) 1 (.len 470),fE (0,2) 25 (.len 470),.slv (0,3) 1 (.var 440) (.var 443) true,xn 1]++vi 405 9++[xl false,xn 0]),
 ((0,1),kR),((0,2),[.rows 25 (.len 470) (.var 472 GI)]),((0,3),oR)]
def MG (has again:Bool):GK:=⟨115,[.ptr (0,0) [] 0,.agg ((YC has).map .sc)],gD0,xn 0,
 d4 ([xi 1,fE (0,1) 1 (.len 470),fE (0,2) 25 (.len 470),(if again=true then Dy true else .k (.slice none 0 0)),xn (if again=true then 2 else 1)]++vi 600 9++[xl (!again),xn 0]) kR [.rows 25 (.len 470) (mM has)] oR++n6 again⟩
def gT1 (has:Bool):bg:=[((0,0),vi 405 9++vi 600 9++[xi 1,fE (0,1) 1 (.len 470),fE (0,2) 25 (.len 470),Dy false,xn 1,xn 0]),((0,1),kR),((0,2),[.rows 25 (.len 470) (mM has)]),((0,3),oR)]
def gD1 (has:Bool):bg:=[((0,0),[xi 1,fE (0,1) 1 (.len 470),fE (0,2) 25 (.len 470),.k (.slice none 0 0),xn 1]++vi 600 9++[xl true,xn 0]),((0,1),kR),((0,2),[.rows 25 (.len 470) (mM has)])]
def gR1 (has:Bool):List GK:=[⟨122,[.ptr (0,0) [] 0],gT1 has,rsX,UW (gT1 has)⟩,⟨116,[.ptr (0,0) [] 0],gD1 has,rsX,UW (gD1 has)⟩]
def kyN:IE := .cl 2 1002 (.var 400)
def kyL:RL := .drop (.cl 2 2 (.var 400)) (.var 194 [.s])
def an0:RL := .one ([aI (.lit 0),.b (.lit false)]++List.replicate 6 (aI (.lit 0))++[.s (.lit ⟨#[]⟩),.s (.lit ⟨#[]⟩),.b (.lit false)]++List.replicate 14 (aI (.lit 0)))
def tdN:RL := .upd (.lit 0) [aI (.lit 0)] (.var 620 [.i .i64])
def nwO:dR:=[((1,1),some [.rows 1 kyN kyL]),((1,2),some [.rows 25 kyN an0]),((1,3),some [.rows 1 kyN tdN])]
def yD (w:Bool):List GK:=[⟨51,[.agg (vi 405 9),xi 1,.rl 1 kyN kyL w],[],.tup [.ptr (1,0) [] 0,xn 0],((1,0),some (vi 405 9++vi 405 9++[xi 1,fE (1,1) 1 kyN,fE (1,2) 25 kyN,fE (1,3) 1 kyN,xn 1,xn 0]))::nwO⟩,
 ⟨74,[.agg (vi 405 9),xi 1,.rl 1 kyN kyL w],[],.tup [.ptr (1,0) [] 0,xn 0],((1,0),some ([xi 1,fE (1,1) 1 kyN,fE (1,2) 25 kyN,fE (1,3) 1 kyN,xn 1]++vi 405 9++[xl false,xn 0]))::nwO⟩]
def xm (w:Bool):List GK:=[⟨51,[.agg (vi 405 9),xi 1,.rl 1 kyN kyL w],[],.tup [.top,xn 1],[]⟩,⟨74,[.agg (vi 405 9),xi 1,.rl 1 kyN kyL w],[],.tup [.k (.pointer none),xn 1],[]⟩]
def PW:List Nat:=[405,406,407,408,409,410,411,412,413]
def XF:List Nat:=PW++[500,501,502,503,504,505,506,507,508]
def KY (has:Bool):Facts:=if has=true then [(.eq (.uf 2 0 alN) (.lit 1),true)]else [(bM 47,false)]
def alB (fr:Nat):Alt:=⟨fr,PW,[],[(440,.lit 0),(443,.len 621)],[(470,.len 621,kyL),(472,.len 621,an0),(474,.len 621,tdN)],[(.lt (.len 621) (.lit 1),false)]⟩
def Pq (fr:Nat) (ki:List Nat):Alt:=⟨fr,440::443::ki,[470,474],[],[(472,.len 470,.var 472 GI)],[]⟩
def alA (fr:Nat) (ki:List Nat) (has:Bool):Alt:=⟨fr,ki,[470,474],[(440,.op .padd .i64 (.var 440) (.lit 1)),(443,.op .psub .i64 (.var 443) (.lit 1))],[(472,.len 470,mM has)],(.lt (.var 443) (.lit 2),false)::KY has⟩
def alT (has:Bool):Alt:=⟨7,PW,[470],(440,.lit 0)::(443,.len 610)::(List.range 9).map (fun k=>(500+k,.var (600+k))),[(474,.len 610,.var 610 [.i .i64]),(472,.len 470,mM has)],(.lt (.len 610) (.lit 1),false)::KY has⟩
def cE0 (p q e:Nat) (t:ig):List Cls:=[⟨sT 1 405 false p q e t,hdF++tnF,[alB 0,alB 1,Pq 6 PW,Pq 7 PW,alA 7 PW false,alA 7 PW true]⟩,⟨sT 1 405 true p q e t,hdF++tnF,[Pq 6 PW,Pq 7 PW]⟩,
 ⟨sT 2 500 false p q e t,hdF++tnF,[Pq 8 XF,Pq 9 XF,alA 9 XF false,alA 9 XF true,alT false,alT true]⟩,⟨sT 2 500 true p q e t,hdF++tnF,[Pq 8 XF,Pq 9 XF]⟩]
def ktE:List Tk:=[.f (.i .i64),.f (.i .i64),.f (.i .i64),.r 1 [.s],.f .s,.f (.i .i64),.f (.i .i64),.f .b,.f .b,.f (.i .i64),.r 22 DK]++List.replicate 9 (.f (.i .i64))
def Xm:DT->Bool
 | .leaf=>true
 | .hole _=>false
 | .br _ a b=>Xm a&&Xm b
 | .brH _ a b=>Xm a&&Xm b
theorem jO {H:VC}:∀(d:DT) (Φ:Facts),Xm d=true->d.holes H Φ=[]
 | .leaf,_,_=>rfl
 | .hole _,_,h=>by cases h
 | .br c a b,Φ,h=>by
  simp only[Xm,Bool.and_eq_true]at h
  simp only[DT.holes]
  split
  ·exact jO a _ h.1
  ·exact jO b _ h.2
  ·rw[jO a _ h.1,jO b _ h.2];rfl
 | .brH k a b,Φ,h=>by
  simp only[Xm,Bool.and_eq_true]at h
  simp only[DT.holes]
  split
  ·split
   ·exact jO a _ h.1
   ·exact jO b _ h.2
   ·rw[jO a _ h.1,jO b _ h.2];rfl
  ·rfl
theorem Uo {H:VC} (hH:GG H) {chk:Facts->Bool} {J:Rho} {d:DT} {Φ:Facts} (hn:Xm d=true) (h:d.ok H chk Φ=true) (hk:Facts.ok J Φ):∃Φ',Facts.ok J Φ'/\chk Φ'=true:=by
 rcases DT.ok_sel hH d Φ h hk with g | ⟨p,hp,_⟩
 ·exact g
 ·rw[jO d Φ hn]at hp;cases hp
theorem RJ (c:BE) (J:Rho):c.den J=true\/c.den J=false:=by cases c.den J<;>simp
end Go.Proofs.YtpdfmnhgocpkcaaGreat
namespace Go.Proofs.YtpdfmnhgocpkcaaGreat
open Go Go.Proofs.Aw Go.Proofs.Xw
set_option maxRecDepth 100000
inductive PT where
 | lf (d:DT)
 | br (c:BE) (a b:PT)
 | ho
 | hy (k:Nat) (a:PT)
 | ad (Ψ:Facts) (a:PT)
def hyA (H:VC) (k:Nat):BE×Facts:=(H[k]?).getD (.lit false,[])
def PT.parts (H:VC):PT->Facts->List (DT×Facts)
 | .lf d,Φ=>[(d,Φ)]
 | .br c a b,Φ=>a.parts H ((c,true)::Φ)++b.parts H ((c,false)::Φ)
 | .ho,_=>[]
 | .hy k a,Φ=>a.parts H ((hyA H k).2++Φ)
 | .ad Ψ a,Φ=>a.parts H (Ψ++Φ)
def PT.hos (H:VC):PT->Facts->List Facts
 | .lf _,_=>[]
 | .br c a b,Φ=>a.hos H ((c,true)::Φ)++b.hos H ((c,false)::Φ)
 | .ho,Φ=>[Φ]
 | .hy k a,Φ=>a.hos H ((hyA H k).2++Φ)
 | .ad Ψ a,Φ=>a.hos H (Ψ++Φ)
def oneL:BE := .eq (.var 443) (.lit 1)
def PT.wf (H:VC):PT->Facts->Bool
 | .lf _,_=>true
 | .br c a b,Φ=>a.wf H ((c,true)::Φ)&&b.wf H ((c,false)::Φ)
 | .ho,_=>true
 | .hy k a,Φ=>sees Φ ((hyA H k).1,true)&&a.wf H ((hyA H k).2++Φ)
 | .ad Ψ a,Φ=>sees Φ (oneL,false)&&a.wf H (Ψ++Φ)
def PT.ads:PT->List Facts
 | .lf _ | .ho=>[]
 | .br _ a b=>a.ads++b.ads
 | .hy _ a=>a.ads
 | .ad Ψ a=>Ψ::a.ads
theorem bg6 {H:VC} (hH:GG H) {k:Nat} {J:Rho} (h:(hyA H k).1.den J=true):Facts.ok J (hyA H k).2:=by
 unfold hyA at h ⊢
 cases he:H[k]? with
 | none=>exact Facts.ok_nil J
 | some p =>
  rw[he]at h
  exact hH p (List.mem_of_getElem? he) J h
theorem PT.sel {H:VC} (hH:GG H) {J:Rho}:∀(t:PT) (Φ:Facts),(∀Ψ∈t.ads,oneL.den J=false->Facts.ok J Ψ)->t.wf H Φ=true->Facts.ok J Φ->(∃p∈t.parts H Φ,Facts.ok J p.2)\/∃q∈t.hos H Φ,Facts.ok J q
 | .lf d,Φ,_,_,hk => .inl ⟨_,List.mem_cons_self,hk⟩
 | .ho,Φ,_,_,hk => .inr ⟨_,List.mem_cons_self,hk⟩
 | .br c a b,Φ,hA,hw,hk=>by
  simp only[PT.wf,Bool.and_eq_true]at hw
  simp only[PT.ads,List.mem_append]at hA
  rcases RJ c J with h | h
  ·rcases PT.sel hH a _ (fun Ψ hp=>hA Ψ (.inl hp)) hw.1 (Facts.ok_cons h hk)with⟨p,h1,h2⟩ | ⟨q,h1,h2⟩
   ·exact .inl ⟨p,List.mem_append_left _ h1,h2⟩
   ·exact .inr ⟨q,List.mem_append_left _ h1,h2⟩
  ·rcases PT.sel hH b _ (fun Ψ hp=>hA Ψ (.inr hp)) hw.2 (Facts.ok_cons h hk)with⟨p,h1,h2⟩ | ⟨q,h1,h2⟩
   ·exact .inl ⟨p,List.mem_append_right _ h1,h2⟩
   ·exact .inr ⟨q,List.mem_append_right _ h1,h2⟩
 | .hy k a,Φ,hA,hw,hk=>by
  simp only[PT.wf,Bool.and_eq_true]at hw
  exact PT.sel hH a _ hA hw.2 (aY (bg6 hH (rF hk hw.1)) hk)
 | .ad Ψ a,Φ,hA,hw,hk=>by
  simp only[PT.wf,Bool.and_eq_true]at hw
  exact PT.sel hH a _ (fun Ψ' hp=>hA Ψ' (List.mem_cons_of_mem _ hp)) hw.2 (aY (hA Ψ List.mem_cons_self (rF hk hw.1)) hk)
def pL:PT := .lf .leaf
def aR2 (ask han han5 tick:PT):PT := .br (aJ (cA 0) 1) ask (.br (aJ (cA 0) 2) han (.br (aJ (cA 0) 3) tick (.br (aJ (cA 0) 4) pL (.br (aJ (cA 0) 5) han5 pL))))
def bU1 (d:PT):PT := .br (.eq (cM 12) (.var 402)) (.br (.eq (cM 13) (.var 403)) d pL) pL
def aB2:DT := .br (iH (.var 414) 2) .leaf .leaf
def bi4 (x:Nat) (puts:Bool):PT :=
 let g:=fun n=>PT.lf (.brH (1+n) (.brH (x+n) (.br (bM 24) .leaf .leaf) .leaf) .leaf)
 let gt:=PT.br (iH (gM 1) 2) (g 1) (.br (iH (gM 1) 3) (g 2) (.br (iH (gM 1) 4) (g 3) (g 4)))
 .br (.eq (.uf 1 0 alM) (.lit 1)) (.hy 1 (if puts=true then .br (iH (.var 414) 3) (.lf aB2) gt else gt)) pL
def h0P (x:Nat) (puts:Bool) (goal:IE):PT := .br (aJ (cM 0) 2) (.br (.eq (cM 10) goal) (bi4 x puts) pL) pL
def bR5:DT := .br (iH (cA 1002) 1) .leaf .leaf
def b44:PT :=
 let one:=PT.lf (Qk aa8 (.brH 0 opD .leaf))
 .br (aJ (cA 1) 4) .ho (.br (aJ (cA 1) 1) (.lf (Qk (aa8++[(Fz (.slen vaE) 32,false)]) opD)) (.br (aJ (cA 1) 2) one (.br (aJ (cA 1) 3) one (.br (aJ (cA 1) 5) (.lf (.br (iH (cA 1002) 1) (.brH 0 (Qk [(iH (cA 4) 0,false),(.lt (cA 4) (.var 0),true)] (.brH 16 opD .leaf)) .leaf) .leaf)) (.lf bR5)))))
def b45:PT := .br (aJ (cA 1) 4) .ho (.lf bR5)
def Y8 (rg:IE) (ok:PT):PT := .br (aJ (cM 73) 92) (.lf (bU7 rg)) (.br (aJ (cM 73) 60) pL (.br (aJ (cM 73) 0) ok pL))
def wrP:PT := .lf (.br (bM 47) (wrD .leaf) .leaf)
def b1P:PT := .br (aJ (cM 0) 4) (.lf doneD) (.br (aJ (cM 0) 6) (.br (iH (.var 414) 3) (.lf aB2) (Y8 rgE wrP)) pL)
def m1P:PT := .br (aJ (cM 0) 4) pL (.br (aJ (cM 0) 6) (Y8 (.var 431) (.lf (.br (bM 47) (wrD ac6) ac6))) pL)
def t1P:PT := .br (aJ (cM 0) 4) pL (.br (aJ (cM 0) 6) (Y8 rtE (.br oneL .ho (.ad G6.2 (.ad (xN BJ) wrP)))) pL)
def bX0:PT:=aR2 b44 pL pL pL
def RN (h:PT):PT:=aR2 b45 (bU1 h) h (.lf bx5)
def fP:Nat->PT
 | 0=>bX0
 | 1=>bX0
 | 2=>RN (h0P 7 true rgE)
 | 3=>RN b1P
 | 4=>RN (h0P 11 false (.var 431))
 | 5=>RN m1P
 | 7=>RN t1P
 | 9=>RN t1P
 | _=>RN (h0P 16 false rtE)
end Go.Proofs.YtpdfmnhgocpkcaaGreat
namespace Go.Proofs.YtpdfmnhgocpkcaaGreat
open Go Go.Proofs.Aw Go.Proofs.Xw
set_option maxRecDepth 100000
def hfC:List Nat:=[48,124,30050,30052,30061,30122,30116,20051,20074,12,13,18,47,98,130,16,17,40,26,43,21,44,95,115,88,76,10073,10089,10090,10057,10019,10032,10020,10022,10025,10106,10080,10119,10118,10121,10103]
def cfZ (k b:Nat):List X:=vi k 10++[xb b]++vi (k+10) 2
def enY (k s b:Nat):X := .agg (vi k 6++[xs s,xs (s+1),xb b]++vi (k+6) 11)
def laF:Facts:=[(.lt (.lit 100) (.slen (.var 0)),false),(.lt (.lit 100) (.op .add .i64 (.slen (.var 1)) (.slen (.var 2))),false)]++rQ++[(.lt (.var 2) (.lit 1),false),(.lt (.lit 4) (.var 2),false),(.lt (.var 3) (.lit 1),false),(.lt (.lit 4) (.var 3),false),(.lt (.var 4) (.var 3),true)]
noncomputable def Yc:Code:=(dw (Tryz.f5.body.getD .skip))[0]?.getD .skip
def kL:Nat:=42
def tL:ig:=tI 25 33 15 17 19 [(59,.top),(58,.top),(18,.top),(57,.top),(56,.top),(52,.top),(55,.top),(54,.top),(53,.top),(16,.top),(51,.top),(50,.top),(46,.top),(49,.top),(48,.top),(47,.top),(45,.top),(44,.top),(43,.top),(42,.top),(41,.top),(40,.top),(39,.top),(38,.top),(37,.top),(36,.top),(35,.top),(34,.top),(33,.top),(32,.top),(31,.top),(30,.top),(29,.top),(28,.top),(27,.top),(14,.top),(12,(.ptr (2,0) [] 0)),(11,(.ptr (1,0) [] 0)),(7,(.ptr (0,0) [] 0)),(0,(.agg [xi 0,xi 1,xi 2,xi 3])),(1,xi 4),(2,scX),(3,xs 0),(4,(.agg [xi 5,xi 6,xi 7,xi 8,xi 9,xi 10,xi 11,xi 12,xi 13,xi 14,xb 0,xi 15,xi 16])),(5,(.agg [xi 17,xi 18,xi 19,xi 20,xi 21,xi 22,xs 1,xs 2,xb 1,xi 23,xi 24,xi 25,xi 26,xi 27,xi 28,xi 29,xi 30,xi 31,xi 32,xi 33])),(6,xb 2)]
def hL:bg:=[((0,0),[xi 0,xi 1,xi 2,xi 3]),((1,0),[xi 5,xi 6,xi 7,xi 8,xi 9,xi 10,xi 11,xi 12,xi 13,xi 14,xb 0,xi 15,xi 16]),((2,0),[xi 17,xi 18,xi 19,xi 20,xi 21,xi 22,xs 1,xs 2,xb 1,xi 23,xi 24,xi 25,xi 26,xi 27,xi 28,xi 29,xi 30,xi 31,xi 32,xi 33])]
def adH (C:Cls):Cls:=⟨⟨C.S.t,C.S.h++hL,C.S.nx⟩,C.Ψ,C.al⟩
def csL:List Cls:=(cD9 25 33 42 tL++cE0 25 33 42 tL).map adH
noncomputable def cgL (kh:List GK):Cfg:=RH [] lpA kh cls [41]
noncomputable def rnL (kh:List GK) (Φ:Facts) (S:XS):T (XE×XS):=(dG (cgL kh).ti (iK ⟨cgL kh,JM,hfC⟩ 12) [] kL [] 1000 Yc Φ S).map (yC (S.t.map (·.1)))
def Ko (S:XS):XS:=⟨S.t,S.h,90⟩
noncomputable def kX (kh:List GK) (i:Nat) (Φ:Facts):Bool:=match csL[i]? with
 | some C=>jV kL 400 400 nzE (460,ktE) i csL (Ko C.S) (.exit 0) Φ (rnL kh Φ C.S)
 | none=>false
def hdL (i:Nat):Facts:=(match csL[i]? with | some C=>C.Ψ | none=>[])++(bA1++(if Nat.ble 6 i=true then Y7++xN todo0 else []))
def gz (i:Nat):Facts:=(.lt (.var 400) (.len 2),true)::((if Nat.beq i 0=true then hyE.2 else hyR.2)++hdL i)
def GM (i:Nat):Facts:=(.lt (.var 400) (.len 2),false)::hdL i
def qE (J:Rho) (i:Nat):Prop:=∃C,csL[i]? = some C/\(yA Tryz.prog Tryz.f5.ntmps Yc kL C.S (.ret (.exit 0,Ko C.S)) J\/∃(j:Nat) (D:Cls) (J':Rho),csL[j]? = some D/\StepF Tryz.prog Tryz.f5.ntmps Yc kL C.S D.S J J'/\Facts.ok J' D.Ψ/\J'.i 400=IntKind.i64.wrap (J.i 400+1)/\Agree 400 J J'/\(BD 460 ktE J->BD 460 ktE J')/\(D.al=[]\/∃a∈D.al,a.fr=i/\kW a J J'))
def Ss (i:Nat):XS:=match csL[i]? with
 | some C=>C.S
 | none=>⟨[],[],0⟩
theorem aT2 {i:Nat} {C:Cls} (h:csL[i]? = some C):Ss i=C.S:=by unfold Ss;rw[h]
structure Bas:Prop where
 hyp:GG bH
 sm:∀s∈JM,iF Tryz.prog s
 ew:Hl Tryz.prog 41
theorem bd3 (J:Rho) (f:Nat) (N:Nat) (c:Code):LpsOk Tryz.prog J N (lpA f) c:=fun c' _ L h=>by
 unfold lpA at h
 split at h
 ·unfold nN at h
  split at h
  ·simp[hvL,LoopX.hv,nN]at h
  ·cases h
 ·simp[nN]at h
theorem bm4 (B:Bas) {J:Rho} {kh:List GK} (hG:∀k∈kh,iG Tryz.prog J k):CfgOk Tryz.prog J (cgL kh):=sJ (List.forall_mem_nil _) (fun f _ _=>bd3 J f _ _) hG RG (List.forall_mem_cons.2 ⟨B.ew,List.forall_mem_nil _⟩)
theorem part (B:Bas) {J:Rho} {i:Nat} (kh:List GK) (hG:∀k∈kh,iG Tryz.prog J k) {d:DT} {Φ:Facts} (hn:Xm d=true) (h:d.ok bH (kX kh i) Φ=true) (hk:Facts.ok J Φ):qE J i:=by
 obtain⟨Φ',h1,h2⟩:=Uo B.hyp hn h hk
 unfold kX at h2
 split at h2
 ·rename_i C hC
  have hc:=bm4 B hG
  exact⟨C,hC,iL hc.mixed hc.ti (dP (c:=⟨cgL kh,JM,hfC⟩) hc B.sm 12) (LpsOk.nil _ _ _ _) (by kernel_rfl) h1 h2⟩
 ·cases h2
noncomputable def bQ (i k:Nat):Bool:=match((fP i).parts bH (gz i))[k]? with
 | some p=>Xm p.1&&p.1.ok bH (kX [] i) p.2
 | none=>true
def BR (i:Nat):Nat->Prop
 | 0=>True
 | n+1=>BR i n/\bQ i n=true
theorem Uj {i k:Nat}:∀{n:Nat},BR i n->k<n->bQ i k=true
 | 0,_,h=>by omega
 | n+1,h,hk=>by
  by_cases e:k=n
  ·rw[e];exact h.2
  ·exact Uj h.1 (by omega)
theorem rdP (B:Bas) {J:Rho} {i n:Nat} (hu:BR i n) (hn:((fP i).parts bH (gz i)).length=n) (hw:(fP i).wf bH (gz i)=true) (hA:∀Ψ∈(fP i).ads,oneL.den J=false->Facts.ok J Ψ) (hk:Facts.ok J (gz i)):qE J i\/∃q∈(fP i).hos bH (gz i),Facts.ok J q:=by
 rcases PT.sel B.hyp _ _ hA hw hk with⟨p,h1,h2⟩ | h
 ·left
  obtain⟨k,hk'⟩:=List.getElem?_of_mem h1
  have h3:=Uj hu (k:=k) (by rw[<-hn];exact(List.getElem?_eq_some_iff.1 hk').1)
  unfold bQ at h3
  rw[hk']at h3
  simp only[Bool.and_eq_true]at h3
  exact part B [] (List.forall_mem_nil _) h3.1 h3.2 h2
 ·exact .inr h
end Go.Proofs.YtpdfmnhgocpkcaaGreat
namespace Go.Proofs.YtpdfmnhgocpkcaaGreat
open Go Go.Proofs.Aw Go.Proofs.Xw
abbrev aX:X := .sc (.i .i64 (.lit 0))
abbrev YL:List X:=[(xi 5),(xi 6),(xi 7),(xi 8),(xi 9),(xi 10),(xi 11),(xi 12),(xi 13),(xi 14),(xb 0),(xi 15),(xi 16)]
abbrev YK:List X:=[(xi 17),(xi 18),(xi 19),(xi 20),(xi 21),(xi 22),(xs 1),(xs 2),(xb 1),(xi 23),(xi 24),(xi 25),(xi 26),(xi 27),(xi 28),(xi 29),(xi 30),(xi 31),(xi 32),(xi 33)]
abbrev uj:X := .sc (.b (.lit false))
abbrev Eb:X := .k (.slice none 0 0)
set_option maxRecDepth 100000
def sA:XS:=⟨([(19,aX),(59,.top),(58,.top),(18,.top),(17,(.ptr (33,0) [] 0))]++[(57,.top),(56,.top),(52,.top),(55,.top),(54,.top),(53,.top),(16,.top)]++[(15,(.ptr (25,0) [] 0))]++[(51,.top),(50,.top),(46,.top),(49,.top),(48,.top),(47,.top),(45,.top),(44,.top),(43,.top),(42,.top),(41,.top),(40,.top),(39,.top),(38,.top),(37,.top),(36,.top),(35,.top),(34,.top),(33,.top),(32,.top),(31,.top),(30,.top),(29,.top),(28,.top),(27,.top),(14,.top)]++[(12,(.ptr (2,0) [] 0)),(11,(.ptr (1,0) [] 0)),(7,(.ptr (0,0) [] 0)),(0,(.agg [(xi 0),(xi 1),(xi 2),(xi 3)])),(1,(xi 4)),(2,scX),(3,(xs 0)),(4,(.agg YL)),(5,(.agg YK)),(6,(xb 2))]),[((0,0),[(xi 0),(xi 1),(xi 2),(xi 3)]),((1,0),YL),((2,0),YK),((25,0),[(xi 0),(xi 1),(xi 2),(xi 3),(xi 4),aX,aX,aX,aX,aX,aX,aX,aX,aX,aX,aX,aX,aX,uj,aX,Eb,(.sc (.s (.lit ⟨#[]⟩))),aX,aX,aX,uj,uj,aX,aX,aX,aX,aX,aX,aX,aX,aX,aX,uj,aX,aX,aX,(.k (.pointer none)),Eb]),((33,0),[(xi 0),(xi 1),(xi 2),(xi 3),(xi 4),aX,aX,aX,aX,aX,aX,aX,aX,aX,aX,aX,aX,uj,aX,Eb,(.sc (.s (.lit ⟨#[]⟩))),aX,(.k (.pointer none)),aX,aX,aX,aX,uj,uj,aX,aX,aX,aX,aX,aX,aX,aX,aX,aX,uj,aX,aX,Eb,Eb])],42⟩
noncomputable def lZ (i:Nat):LoopX:=⟨(bW Yc).getD 0,0,400,sA,noB,[],.ret (.exit 0,Ko (Ss i))⟩
end Go.Proofs.YtpdfmnhgocpkcaaGreat
namespace Go.Proofs.YtpdfmnhgocpkcaaGreat
open Go Go.Proofs.Aw Go.Proofs.Xw
set_option maxRecDepth 100000
theorem ba6 {P:Program} {ty e:TypeId} {z:Nat} (hs:jU P ty=some (e,z)) {es:List (List AV)} (h0:es≠[]):kV P [] .eql ty (.ro z es false) (.sc (.slice none 0 0))=some (.sc (.bool false)):=by
 unfold kV
 rw[Gu (fun k i h=>by cases h)]
 cases es with
 | nil=>exact absurd rfl h0
 | cons e es=>simp only[xG,hs,AO]
theorem an7 {P:Program} {f:FuncId} {fn:Func} {ty e:TypeId} {z:Nat} (hf:P.funcs[f]? = some fn) (hb:fn.body=some (clB ty)) (hr:fn.results.toList=[.tmp 2]) (hN:fn.ntmps=8) (hs:jU P ty=some (e,z)) (hz:sZ P e=some z)
  {es:List (List AV)} (h0:es≠[]) (hn:nmsE (fun _=>false) es=true) (hl:es.length*dA P e<=140737488355328) (hm:es.length<=9223372036854775807) (n:Nat) (h:Hp):CY P n f [.ro z es false] h (.ro z es false) []:=by
 have hA:nms (fun _=>false) (.ro z es false)=true:=hn
 refine GH hf hb (by rw[hN];show 1<=8;decide) (by simp only[nmsL,hA,Bool.and_self]) hA (fun E hE _ _ => ?_) n h
 rw[hr]
 exact Vl (b:=false) (by rw[hE,hN]) hs hz (ba6 hs h0) (fun h=>by cases h) fun _=>⟨es,by simp only[fA,if_true],hl,hm,rfl⟩
def GL (es:List (List AV)):Hp:=[((0,0),es.flatten)]
theorem bl7 {P:Program} {E:Env} {ty e:TypeId} {z:Nat} (hN:E.N=8) (hs:jU P ty=some (e,z)) (hz:sZ P e=some z) {es:List (List AV)} (h0:es≠[]) (hw:∀(j:Nat) (r:List AV),es[j]? = some r->r.length=z) (hn:nmsL (fun _=>false) es.flatten=true) (hl:es.length*dA P e<=140737488355328) (hm:es.length<=9223372036854775807) :
  AW P E (clB ty) (b57 P [.tmp 2] 1 (fun _=>(7,0)) (GL es) (hap [((0,0),some es.flatten),((1,0),some es.flatten)] (GL es)) (.sl (1,0) z 0 es.length true)) ⟨slots 0 [.sl (0,0) z 0 es.length true],GL es,2⟩:=by
 unfold clB
 refine qF fun K hK=>yB [] (by rw[hN];rfl) ?_
 unfold bm1
 rw[kN]
 refine hK _ ?_
 refine qF fun K hK=>qF fun K1 hK1=>yB [] (by rw[hN];rfl) ?_
 unfold bm0
 rw[kN]
 show PS P [] _ _ K1 _ _ _
 rw[kN]
 have e0:kV P (GL es) .eql ty (.sl (0,0) z 0 es.length true) (.sc (.slice none 0 0))=some (.sc (.bool false)):=by
  unfold kV
  rw[Gu (fun k i h=>by cases h)]
  simp only[xG,hs,GL,hget,if_true,Option.isSome_some,AO]
 show qf P _ _ (eu (kV P (GL es) .eql ty (.sl (0,0) z 0 es.length true) (.sc (.slice none 0 0)))) _
 rw[e0]
 refine hK1 _ (D6 (b:=false) rfl (fun hb=>by cases hb) (fun _ => ?_))
 refine Md (hK _ ?_)
 refine qF fun K2 hK2=>yB [7] (by rw[hN];rfl) ?_
 unfold bl9
 rw[kN]
 have e1:fK P 5 false ty 0 []=some (.ro z [] true,[]):=by
  unfold fK
  rw[hs]
  simp only[hz,qj]
  rw[if_pos ⟨trivial,by omega,rfl,trivial⟩]
  rfl
 show qf P _ _ (qg (fK P 5 false ty 0 [])) _
 rw[e1]
 show PS P [7] _ _ K2 _ _ _
 rw[kN]
 show PS P [7] _ _ K2 _ _ _
 rw[kN]
 have e2:lK P 7 (GL es) true ty ty (.ro z [] true) (.sl (0,0) z 0 es.length true)=some (.sl (7,0) z 0 es.length true,[((7,0),some es.flatten)]):=by
  unfold lK
  rw[hs]
  have ee:fA (GL es) z (.sl (0,0) z 0 es.length true)=some es:=by
   simp only[fA,GL,hget,if_true,Option.bind_some]
   rw[if_pos ⟨trivial,by rw[flat_length _ hw];omega⟩,List.drop_zero,uY _ _ hw (Nat.le_refl _),List.take_of_length_le (Nat.le_refl _)]
  simp only[hz,ee,and_self,if_true,PX,jX,apO]
  rw[if_pos ⟨by simpa using hl,by simpa using hm,fun _=>h0⟩]
  simp
 show qf P _ _ (qg (lK P 7 (GL es) true ty ty (.ro z [] true) (.sl (0,0) z 0 es.length true))) _
 rw[e2]
 show PS P [7] _ _ K2 _ _ _
 rw[kN]
 refine hK2 _ (Me ⟨.inl rfl,?_,fun m cs hk hp => ?_⟩)
 ·rfl
 ·have e3:∀m,hget (hap [((0,0),some es.flatten),((1,0),some es.flatten)] (GL es)) m=if m=(1,0)then some es.flatten else if m=(0,0)then some es.flatten else none:=fun m=>by
   simp only[hap,dF,GL,hget]
   by_cases h1:m=(1,0)
   ·subst h1;simp
   ·by_cases h2:m=(0,0)
    ·subst h2;simp
    ·simp[h1,h2,Ne.symm h1,Ne.symm h2]
  rw[e3]at hk
  by_cases h1:m=(1,0)
  ·subst h1
   rw[if_pos rfl]at hk
   cases hk
   rw[gG _ _ hn]
   show hget (hap [((7,0),some es.flatten)] (GL es)) (7,0)=_
   simp[hap,dF]
  ·rw[if_neg h1]at hk
   by_cases h2:m=(0,0)
   ·subst h2
    rw[if_pos rfl]at hk
    cases hk
    rw[gG _ _ hn]
    show hget (hap [((7,0),some es.flatten)] (GL es)) (0,0)=_
    simp[hap,dF,GL,hget]
   ·rw[if_neg h2]at hk;cases hk
theorem aK4 {P:Program} {f:FuncId} {fn:Func} {ty e:TypeId} {z:Nat} (hf:P.funcs[f]? = some fn) (hb:fn.body=some (clB ty)) (hr:fn.results.toList=[.tmp 2]) (hN:fn.ntmps=8) (hs:jU P ty=some (e,z)) (hz:sZ P e=some z)
  {es:List (List AV)} (h0:es≠[]) (hw:∀(j:Nat) (r:List AV),es[j]? = some r->r.length=z) (hn:nmsL (fun _=>false) es.flatten=true) (hl:es.length*dA P e<=140737488355328) (hm:es.length<=9223372036854775807):CY P 1 f [.sl (0,0) z 0 es.length true] (GL es) (.sl (1,0) z 0 es.length true) [((0,0),some es.flatten),((1,0),some es.flatten)]:=by
 have nmono:∀(p:Nm->Bool) (l:List AV),nmsL (fun _=>false) l=true->nmsL p l=true:=fun p l h=>kQ (p:=fun _=>false) (q:=p) (fun m hm=>by cases hm) l h
 have g0:∀m,hget (GL es) m=if m=(0,0)then some es.flatten else none:=fun m=>by
  by_cases h2:m=(0,0)
  ·subst h2;simp[GL,hget]
  ·simp[GL,hget,h2,Ne.symm h2]
 have g1:∀m,hget (hap [((0,0),some es.flatten),((1,0),some es.flatten)] (GL es)) m=if m=(1,0)then some es.flatten else if m=(0,0)then some es.flatten else none:=fun m=>by
  simp only[hap,dF]
  by_cases h1:m=(1,0)
  ·subst h1;simp
  ·by_cases h2:m=(0,0)
   ·subst h2;simp
   ·simp[h1,h2,Ne.symm h1,Ne.symm h2,g0]
 have one:∀k,(hget (hap [((0,0),some es.flatten),((1,0),some es.flatten)] (GL es)) (1,k)).isSome=true->k=0:=fun k h=>by
  rw[g1]at h
  by_cases hk:k=0
  ·exact hk
  ·rw[if_neg (by simp[hk]),if_neg (by simp)]at h;cases h
 refine VD (fun _=>(7,0)) hf hb (by rw[hN];show 1<=8;decide) (fun m cs h=>h) (fun m cs h => ?_) rfl (fun m hm => ?_) (fun m hm => ?_) rfl (fun m cs hm hp => ?_) (fun k hk=>by show 1<7;decide) (fun j k hj hk _=>by rw[one j hj,one k hk]) (fun E hE=>by
  rw[hr]
  exact bl7 (by rw[hE,hN]) hs hz h0 hw hn hl hm)
 ·rw[g0]at h
  split at h
  ·rename_i e;subst e;cases h
   exact⟨by decide,nmono _ _ hn⟩
  ·cases h
 ·simp only[List.map_cons,List.map_nil,List.mem_cons,List.not_mem_nil,or_false]at hm
  rcases hm with rfl | rfl
  ·exact .inr (by rw[g0];rfl)
  ·exact .inl rfl
 ·rw[g0]at hm
  split at hm
  ·rename_i e;subst e;simp
  ·cases hm
 ·rw[g1]at hm
  split at hm
  ·cases hm;exact nmono _ _ hn
  ·split at hm
   ·cases hm;exact nmono _ _ hn
   ·cases hm
end Go.Proofs.YtpdfmnhgocpkcaaGreat
