/- Parts of the proof, one behind the other. -/
import Derived.Test.YtpdfmnhgocpkcaaGreatTK7
import Derived.Test.YtpdfmnhgocpkcaaGreatTK2
import Derived.Test.YtpdfmnhgocpkcaaGreatTK3
import Derived.Test.YtpdfmnhgocpkcaaGreatXwK3
import Derived.Test.YtpdfmnhgocpkcaaGreatXwK1
namespace Go.Proofs.YtpdfmnhgocpkcaaGreat
open Go Go.Proofs.Aw Go.Proofs.Xw
set_option maxRecDepth 100000
theorem Sd:((List.range 10).all fun i=>(Ss i).t.all (fun p => !Nat.beq p.1 3||X.beq p.2 Sg)&&((Ss i).h.all (fun q => !cC q.1 (1,0)||X.fc q.2 ((mK.drop 1).take 4))&&(CO (Ss i)).au 600))=true:=by kernel_rfl
theorem aq5 {ρ:aa} (h:ρ.i 400=ρ.len 2):X.af ρ oW=X.af ρ ((mK.drop 1).take 4):=by
 unfold oW mK
 simp only[X.xy,X.qL,qD]
 have e:((U.var 400).I ρ).toNat=((U.len 2).I ρ).toNat:=by show(ρ.i 400).toNat=((ρ.len 2:Int)).toNat;rw[h]
 rw[e]
theorem alh {ρ:aa} {i:Nat} (hi:i<10) (h:ρ.i 400=ρ.len 2):(CO (Ss i)).I ρ=(oO (Ss i)).I ρ:=by
 have H:=List.all_eq_true.1 Sd i (List.mem_range.2 hi)
 simp only[Bool.and_eq_true,List.all_eq_true,Bool.or_eq_true,Bool.not_eq_true']at H
 obtain⟨A,E,_⟩:=H
 have e:=aq5 h
 show(⟨ep ρ _,aK ρ _,90⟩:St)=⟨ep ρ (Ss i).t,aK ρ (Ss i).h,90⟩
 have aeB:ep ρ ((Ss i).t.map fun p=>if Nat.beq p.1 3=true then(p.1,X.agg oW)else p)=ep ρ (Ss i).t:=by
  unfold ep
  rw[List.map_map]
  refine List.map_congr_left fun p hp => ?_
  simp only[Function.comp]
  split
  ·rename_i h3
   rcases A p hp with q | q
   ·rw[h3]at q;cases q
   ·rw[X.beq_eq _ _ q]
    show(p.1,AV.agg (X.af ρ oW))=(p.1,AV.agg (X.af ρ ((mK.drop 1).take 4)))
    rw[e]
  ·rfl
 have aeA:aK ρ ((Ss i).h.map fun q=>if cC q.1 (1,0)=true then(q.1,oW)else q)=aK ρ (Ss i).h:=by
  unfold aK
  rw[List.map_map]
  refine List.map_congr_left fun p hp => ?_
  simp only[Function.comp]
  split
  ·rename_i h3
   rcases E p hp with q | q
   ·rw[h3]at q;cases q
   ·rw[X.gv _ _ q]
    show(p.1,aB ρ oW)=(p.1,aB ρ ((mK.drop 1).take 4))
    rw[cR (show b0 oW=false from rfl),cR (show b0 ((mK.drop 1).take 4)=false from rfl),e]
  ·rfl
 show(⟨ep ρ ((Ss i).t.map fun p=>if Nat.beq p.1 3=true then(p.1,X.agg oW)else p),aK ρ ((Ss i).h.map fun q=>if cC q.1 (1,0)=true then(q.1,oW)else q),90⟩:St)=_
 rw[aeB,aeA]
theorem ahR {ρ G:aa} (ah:aA 600 ρ G) {i:Nat} (hi:i<10) (h:ρ.i 400=ρ.len 2) (hL:b8 Tryz.prog ρ Tryz.f9.ntmps kb (V6 i)):b8 Tryz.prog G Tryz.f9.ntmps kb (B_ i):=fun ac hE bM=>by
 have H:=List.all_eq_true.1 Sd i (List.mem_range.2 hi)
 simp only[Bool.and_eq_true]at H
 have e1:sA.I ρ=sA.I G:=XS.aP ah sA (by kernel_rfl)
 have e2:(CO (Ss i)).I G=(oO (Ss i)).I ρ:=by rw[<-XS.aP ah _ H.2.2];exact alh hi h
 have q:=hL ac hE bM
 show AW _ ac _ _ (sA.I G)
 rw[<-e1]
 refine dB (fun e V hq => ?_) q
 obtain⟨e',s,q1,q2,q3⟩:=hq
 cases q1
 exact⟨.exit 0,CO (Ss i),rfl,q2,by rw[e2];exact q3⟩
end Go.Proofs.YtpdfmnhgocpkcaaGreat
namespace Go.Proofs.YtpdfmnhgocpkcaaGreat
open Go Go.Proofs.Aw Go.Proofs.Xw
def yw:X := .sc (.s (.var 0))
noncomputable def wU:Code:=(ef (Tryz.f68.body.getD .skip))[0]?.getD .skip
abbrev aa1:X := .sc (.i .i64 (.cm (.var 0)))
abbrev zL:X := .sc (.s (.var 0))
abbrev aa8:X := .sc (.c (.lit 0) (.lit false) (.lit 0) (.lit false))
abbrev aa9:bf:=[(9,(.sc (.i .i64 (.var 100)))),(8,aa1),(7,zL),(3,(.sc (.i .u64 (.var 101)))),(2,aa8),(0,zL)]
abbrev aba:U := .op .add .i64 (.var 100) (.lit 1)
abbrev abb:U := .op .mul .u64 (.op .xor .u64 (.var 101) (.op .conv .u64 (.fJ (.var 0) (.var 100)) (.lit 0))) (.lit 1099511628211)
abbrev abc:BE := .lt (.var 100) (.cm (.var 0))
abbrev Jc:X := .sc (.i .i64 (.lit 0))
abbrev abd:bf:=[(5,(.sc (.i .i64 (.var 140)))),(4,(.sc (.i .u64 (.var 141)))),(3,Jc),(2,Jc),(0,zL)]
abbrev abe:U := .op .add .i64 (.var 140) (.lit 1)
abbrev aa2:U := .op .mul .u64 (.op .xor .u64 (.var 141) (.op .conv .u64 (.fJ (.var 0) (.var 140)) (.lit 0))) (.lit 1099511628211)
abbrev aa3:BE := .lt (.var 140) (.cm (.var 0))
abbrev aa4:U := .op .mul .u64 (.op .xor .u64 (.var 141) (.op .shr .u64 (.var 141) (.lit 32))) (.lit 11400714819323198485)
abbrev aa5:U := .op .xor .u64 aa4 (.op .shr .u64 aa4 (.lit 29))
abbrev aa6:U := .op .sub .i64 (.op .conv .i64 (.op .and .u64 aa5 (.lit 1048575)) (.lit 0)) (.lit 524288)
abbrev aa7:U := .op .sub .i64 (.op .conv .i64 (.op .and .u64 (.op .shr .u64 aa5 (.lit 20)) (.lit 1048575)) (.lit 0)) (.lit 524288)
def aaE:XS:=⟨aa9,[],5⟩
def atE:J:=[(.lt (.var 100) (.lit 0),false)]
def lW:Bind:=⟨[(100,aba),(101,abb)],[],[],[]⟩
def jo:Bind:=⟨[(100,(.lit 0)),(101,(.lit 14695981039346656037))],[],[],[]⟩
def I5:T (XE×XS):=(.br abc (.ret (.normal,⟨[(9,(.sc (.i .i64 aba))),(8,aa1),(7,zL),(3,(.sc (.i .u64 abb))),(2,aa8),(0,zL)],[],18⟩)) (.ret ((.exit 0),⟨aa9,[],6⟩)))
noncomputable def wP:bo:=⟨((dF wU).getD 0),0,100,aaE,jo,[],I5.outs⟩
theorem atC:(cz (bg ([]) (fun _=>[])).ti (eT ⟨(bg ([]) (fun _=>[])),[],[]⟩ 12) (((bg ([]) (fun _=>[])).hV 68).elim [] (·.ms)) wP.k0 ((fun _=>[]) 68) 1000 wU atE wP.S).map (eu (aaE.t.map (·.1)))=I5:=by kernel_rfl
theorem atx:I5.gK (gp wP.k0 wP.n lW [] wP.S)=true:=by kernel_rfl
theorem aty:I5.outs.l_ 102=true:=by kernel_rfl
theorem atA:jo.au 100=true:=by kernel_rfl
theorem Q5:jo.ge 100=true:=by kernel_rfl
theorem Q4:lW.ge 100=true:=by kernel_rfl
theorem atD:jo.same lW=true:=by kernel_rfl
theorem atz:dp Tryz.f68.ntmps wU=true:=by kernel_rfl
noncomputable def wV:Code:=(ef (Tryz.f145.body.getD .skip))[0]?.getD .skip
def aaF:XS:=⟨abd,[],4⟩
def atM:J:=[(.lt (.var 140) (.lit 0),false)]
def lX:Bind:=⟨[(140,abe),(141,aa2)],[],[],[]⟩
def jq:Bind:=⟨[(140,(.lit 0)),(141,(.lit 14695981039346656037))],[],[],[]⟩
def I6:T (XE×XS):=(.br aa3 (.ret (.normal,⟨[(5,(.sc (.i .i64 abe))),(4,(.sc (.i .u64 aa2))),(3,Jc),(2,Jc),(0,zL)],[],19⟩)) (.ret ((.exit 0),⟨abd,[],8⟩)))
noncomputable def wQ:bo:=⟨((dF wV).getD 0),0,140,aaF,jq,[],I6.outs⟩
theorem atK:(cz (bg ([]) (fun _=>[])).ti (eT ⟨(bg ([]) (fun _=>[])),[],[]⟩ 12) (((bg ([]) (fun _=>[])).hV 145).elim [] (·.ms)) wQ.k0 ((fun _=>[]) 145) 1000 wV atM wQ.S).map (eu (aaF.t.map (·.1)))=I6:=by kernel_rfl
theorem atF:I6.gK (gp wQ.k0 wQ.n lX [] wQ.S)=true:=by kernel_rfl
theorem atG:I6.outs.l_ 142=true:=by kernel_rfl
theorem atI:jq.au 140=true:=by kernel_rfl
theorem Q7:jq.ge 140=true:=by kernel_rfl
theorem Q6:lX.ge 140=true:=by kernel_rfl
theorem atL:jq.same lX=true:=by kernel_rfl
theorem atH:dp Tryz.f145.ntmps wV=true:=by kernel_rfl
end Go.Proofs.YtpdfmnhgocpkcaaGreat
namespace Go.Proofs.YtpdfmnhgocpkcaaGreat
open Go Go.Proofs.Aw Go.Proofs.Xw
set_option maxRecDepth 100000
noncomputable def GJ (f:Nat):List bo:=if Nat.beq f 68=true then [wP]else []
theorem aij:wm [wP] [0] 0 (ef (Tryz.f68.body.getD .skip))=true:=by kernel_rfl
theorem aii {ρ:aa} (L9:b8 Tryz.prog ρ Tryz.f68.ntmps wU wP):a5 Tryz.prog ρ Tryz.f68.ntmps [wP] (Tryz.f68.body.getD .skip) :=
 lE [0] aij (List.forall_mem_cons.2 ⟨Wg (c:=wU) (Ls:=[wP]) (by kernel_rfl) (List.forall_mem_cons.2 ⟨L9,List.forall_mem_nil _⟩),List.forall_mem_nil _⟩)
theorem aik {ρ:aa} (L9:b8 Tryz.prog ρ Tryz.f68.ntmps wU wP):∀f i,eS f gA=some i->a5 Tryz.prog ρ i.ntmps (GJ f) i.body:=by
 intro f i h
 have hi:=oc (f,i) (k8 _ _ (k7 h))
 unfold GJ
 split
 ·rename_i hf
  have hf:=Nat.eq_of_beq_eq_true hf
  subst hf
  exact pN hi Tryz.func68 (aii L9)
 ·exact a5.nil _ _ _ _
noncomputable def GL (f:Nat):List bo:=if Nat.beq f 145=true then [wQ]else []
theorem aim:wm [wQ] [0] 0 (ef (Tryz.f145.body.getD .skip))=true:=by kernel_rfl
theorem ail {ρ:aa} (L_:b8 Tryz.prog ρ Tryz.f145.ntmps wV wQ):a5 Tryz.prog ρ Tryz.f145.ntmps [wQ] (Tryz.f145.body.getD .skip) :=
 lE [0] aim (List.forall_mem_cons.2 ⟨Wg (c:=wV) (Ls:=[wQ]) (by kernel_rfl) (List.forall_mem_cons.2 ⟨L_,List.forall_mem_nil _⟩),List.forall_mem_nil _⟩)
theorem ain {ρ:aa} (L_:b8 Tryz.prog ρ Tryz.f145.ntmps wV wQ):∀f i,eS f gA=some i->a5 Tryz.prog ρ i.ntmps (GL f) i.body:=by
 intro f i h
 have hi:=oc (f,i) (k8 _ _ (k7 h))
 unfold GL
 split
 ·rename_i hf
  have hf:=Nat.eq_of_beq_eq_true hf
  subst hf
  exact pN hi Tryz.func145 (ail L_)
 ·exact a5.nil _ _ _ _
def Pk:T X:=(.cT (.not abc) (.ret (.sc (.c (.ite (.and (.eq (.op .cY .i64 (.op .and .u64 (.op .xor .u64 (.op .mul .u64 (.op .xor .u64 (.var 101) (.op .shr .u64 (.var 101) (.lit 32))) (.lit 11400714819323198485)) (.op .shr .u64 (.op .mul .u64 (.op .xor .u64 (.var 101) (.op .shr .u64 (.var 101) (.lit 32))) (.lit 11400714819323198485)) (.lit 29))) (.lit 1048575)) (.lit (-524288))) (.lit 0)) (.eq (.op .cY .i64 (.op .and .u64 (.op .shr .u64 (.op .xor .u64 (.op .mul .u64 (.op .xor .u64 (.var 101) (.op .shr .u64 (.var 101) (.lit 32))) (.lit 11400714819323198485)) (.op .shr .u64 (.op .mul .u64 (.op .xor .u64 (.var 101) (.op .shr .u64 (.var 101) (.lit 32))) (.lit 11400714819323198485)) (.lit 29))) (.lit 20)) (.lit 1048575)) (.lit (-524288))) (.lit 0))) (.lit 1) (.op .cY .i64 (.op .and .u64 (.op .xor .u64 (.op .mul .u64 (.op .xor .u64 (.var 101) (.op .shr .u64 (.var 101) (.lit 32))) (.lit 11400714819323198485)) (.op .shr .u64 (.op .mul .u64 (.op .xor .u64 (.var 101) (.op .shr .u64 (.var 101) (.lit 32))) (.lit 11400714819323198485)) (.lit 29))) (.lit 1048575)) (.lit (-524288)))) (.lit false) (.ite (.and (.eq (.op .cY .i64 (.op .and .u64 (.op .xor .u64 (.op .mul .u64 (.op .xor .u64 (.var 101) (.op .shr .u64 (.var 101) (.lit 32))) (.lit 11400714819323198485)) (.op .shr .u64 (.op .mul .u64 (.op .xor .u64 (.var 101) (.op .shr .u64 (.var 101) (.lit 32))) (.lit 11400714819323198485)) (.lit 29))) (.lit 1048575)) (.lit (-524288))) (.lit 0)) (.eq (.op .cY .i64 (.op .and .u64 (.op .shr .u64 (.op .xor .u64 (.op .mul .u64 (.op .xor .u64 (.var 101) (.op .shr .u64 (.var 101) (.lit 32))) (.lit 11400714819323198485)) (.op .shr .u64 (.op .mul .u64 (.op .xor .u64 (.var 101) (.op .shr .u64 (.var 101) (.lit 32))) (.lit 11400714819323198485)) (.lit 29))) (.lit 20)) (.lit 1048575)) (.lit (-524288))) (.lit 0))) (.lit 0) (.op .cY .i64 (.op .and .u64 (.op .shr .u64 (.op .xor .u64 (.op .mul .u64 (.op .xor .u64 (.var 101) (.op .shr .u64 (.var 101) (.lit 32))) (.lit 11400714819323198485)) (.op .shr .u64 (.op .mul .u64 (.op .xor .u64 (.var 101) (.op .shr .u64 (.var 101) (.lit 32))) (.lit 11400714819323198485)) (.lit 29))) (.lit 20)) (.lit 1048575)) (.lit (-524288)))) (.lit false)))))
theorem aoy:aS ⟨bg [] GJ,[],[]⟩ 68 ([yw]) []=Pk:=by kernel_rfl
def PQ:T X:=(.cT (.not aa3) (.ret (.tup [(.sc (.i .i64 (.ite (.and (.eq aa6 (.lit 0)) (.eq aa7 (.lit 0))) (.lit 1) aa6))),(.sc (.i .i64 aa7))])))
theorem aqI:aS ⟨bg [] GL,[],[]⟩ 145 ([yw]) []=PQ:=by kernel_rfl
end Go.Proofs.YtpdfmnhgocpkcaaGreat
namespace Go.Proofs.Xw
open Go Go.Proofs.Aw
section
variable (ρ:aa)
theorem KL (a b:U):((BE.lt a b).I ρ=true)=(a.I ρ<b.I ρ):=by simp[BE.I]
theorem mZ (a b:U):((BE.lt a b).I ρ=false)=(b.I ρ<=a.I ρ):=by simp[BE.I]
theorem Tm (a b:U):((BE.eq a b).I ρ=true)=(a.I ρ=b.I ρ):=by simp[BE.I]
theorem sF (a b:U):((BE.eq a b).I ρ=false)=¬(a.I ρ=b.I ρ):=by simp[BE.I]
theorem To (a:BE):((BE.not a).I ρ=true)=(a.I ρ=false):=by simp[BE.I]
theorem Tb (a b:BE):((BE.and a b).I ρ=false)=(a.I ρ=false\/b.I ρ=false):=by simp only[BE.I];cases BE.I ρ a<;>cases BE.I ρ b<;>simp
end
end Go.Proofs.Xw
namespace Go.Proofs.YtpdfmnhgocpkcaaGreat
open Go Go.Proofs.Aw Go.Proofs.Xw
set_option maxRecDepth 100000
theorem Xh:∀ρ,dk Tryz.prog ρ (eT ⟨bg [] (fun _=>[]),[],[]⟩ 12):=fun _=>ft (c:=⟨bg [] (fun _=>[]),[],[]⟩) (jz (List.forall_mem_nil _) (fun _ _ _=>a5.nil _ _ _ _)) (List.forall_mem_nil _) 12
theorem atB (ρ:aa) (h:(ρ.s 0).size<9223372036854775808):b8 Tryz.prog (lW.it (jo.ap ρ) (ρ.s 0).size) Tryz.f68.ntmps wU wP :=
 Wi mixed dj atC atz atx rfl 102 aty atA Q4 atD (aC:=100) (e := .cm (.var 0)) rfl (by intro h;cases h) rfl rfl (by kernel_rfl) (dl:=[]) rfl (by kernel_rfl) (J.bq _) Q5 Xh (fun _=>a5.nil _ _ _ _) _ h rfl
theorem atJ (ρ:aa) (h:(ρ.s 0).size<9223372036854775808):b8 Tryz.prog (lX.it (jq.ap ρ) (ρ.s 0).size) Tryz.f145.ntmps wV wQ :=
 Wi mixed dj atK atH atF rfl 142 atG atI Q6 atL (aC:=140) (e := .cm (.var 0)) rfl (by intro h;cases h) rfl rfl (by kernel_rfl) (dl:=[]) rfl (by kernel_rfl) (J.bq _) Q7 Xh (fun _=>a5.nil _ _ _ _) _ h rfl
theorem XL (ρ:aa):∀j:Nat,(lW.it (jo.ap ρ) j).i 100=(lX.it (jq.ap ρ) j).i 140/\(lW.it (jo.ap ρ) j).i 101=(lX.it (jq.ap ρ) j).i 141
 | 0=>⟨rfl,rfl⟩
 | j+1=>by
  obtain⟨A,E⟩:=XL ρ j
  have s1:(lW.it (jo.ap ρ) j).s 0=ρ.s 0:=(((Bind.bC Q5 ρ).trans (Bind.vN Q4 (jo.ap ρ) j)).s 0 (by decide)).symm
  have s2:(lX.it (jq.ap ρ) j).s 0=ρ.s 0:=(((Bind.bC Q7 ρ).trans (Bind.vN Q6 (jq.ap ρ) j)).s 0 (by decide)).symm
  have e1:(lW.it (jo.ap ρ) (j+1)).i 100=a_.I .add .i64 ((lW.it (jo.ap ρ) j).i 100) 1:=by kernel_rfl
  have e2:(lX.it (jq.ap ρ) (j+1)).i 140=a_.I .add .i64 ((lX.it (jq.ap ρ) j).i 140) 1:=by kernel_rfl
  have e3:(lW.it (jo.ap ρ) (j+1)).i 101=a_.I .mul .u64 (a_.I .xor .u64 ((lW.it (jo.ap ρ) j).i 101) (a_.I .conv .u64 (((((lW.it (jo.ap ρ) j).s 0)[((lW.it (jo.ap ρ) j).i 100).toNat]?).getD 0).toNat:Int) 0)) 1099511628211:=by kernel_rfl
  have e4:(lX.it (jq.ap ρ) (j+1)).i 141=a_.I .mul .u64 (a_.I .xor .u64 ((lX.it (jq.ap ρ) j).i 141) (a_.I .conv .u64 (((((lX.it (jq.ap ρ) j).s 0)[((lX.it (jq.ap ρ) j).i 140).toNat]?).getD 0).toNat:Int) 0)) 1099511628211:=by kernel_rfl
  rw[e1,e2,e3,e4,s1,s2,A,E]
  exact⟨rfl,rfl⟩
def ns (h:Int):Int:=a_.I .xor .u64 (a_.I .mul .u64 (a_.I .xor .u64 h (a_.I .shr .u64 h 32)) 11400714819323198485) (a_.I .shr .u64 (a_.I .mul .u64 (a_.I .xor .u64 h (a_.I .shr .u64 h 32)) 11400714819323198485) 29)
def l7 (h:Int):Int:=bits .and .u64 (ns h) 1048575 + -524288
def l8 (h:Int):Int:=bits .and .u64 (a_.I .shr .u64 (ns h) 20) 1048575 + -524288
theorem adn (h:Int) : -524288<=l7 h/\l7 h<=524287:=by
 have:=yD .u64 (.inr rfl) (ns h) 1048575 (by decide) (by decide)
 unfold l7;omega
theorem ado (h:Int) : -524288<=l8 h/\l8 h<=524287:=by
 have:=yD .u64 (.inr rfl) (a_.I .shr .u64 (ns h) 20) 1048575 (by decide) (by decide)
 unfold l8;omega
theorem ZH (m:Int) (h:0<=m/\m<=1048575):a_.I .sub .i64 (a_.I .conv .i64 m 0) 524288=m + -524288:=by
 simp only[a_.I]
 rw[cp m (by omega) (by omega),cp _ (by omega) (by omega)]
 omega
theorem aox (ρ:aa) (h:(ρ.s 0).size<9223372036854775808):∃x y:Int,(-524288<=x/\x<=524287)/\(-524288<=y/\y<=524287)/\¬(x=0/\y=0) /\
  (cj Tryz.prog 68=true/\∀n h,CY Tryz.prog n 68 (X.af ρ [yw]) h (.sc (.complex .f64 (fv x false) (fv y false))) []) /\
  (cj Tryz.prog 145=true/\∀n h,CY Tryz.prog n 145 (X.af ρ [yw]) h (.tup [.sc (.int .i64 x),.sc (.int .i64 y)]) []):=by
 generalize e1:lW.it (jo.ap ρ) (ρ.s 0).size=bT
 generalize e2:lX.it (jq.ap ρ) (ρ.s 0).size=ax
 have l1:=atB ρ h
 have l2:=atJ ρ h
 have Eo:aA 100 ρ bT:=by rw[<-e1];exact(Bind.bC Q5 ρ).trans (Bind.vN Q4 (jo.ap ρ) _)
 have mR:aA 140 ρ ax:=by rw[<-e2];exact(Bind.bC Q7 ρ).trans (Bind.vN Q6 (jq.ap ρ) _)
 have c1:bT.i 100=(ρ.s 0).size:=by rw[<-e1];exact Gg (e := .lit 0) rfl (by rfl) _ h
 have c2:ax.i 140=(ρ.s 0).size:=by rw[<-e2];exact Gg (e := .lit 0) rfl (by rfl) _ h
 have sm:bT.i 101=ax.i 141:=by rw[<-e1,<-e2];exact(XL ρ _).2
 rw[e1]at l1
 rw[e2]at l2
 have n1:(BE.not (.lt (.var 100) (.cm (.var 0)))).I bT=true:=by
  rw[To,mZ]
  simp only[U.I,TE.I,c1,<-Eo.s 0 (by decide)]
  omega
 have n2:(BE.not (.lt (.var 140) (.cm (.var 0)))).I ax=true:=by
  rw[To,mZ]
  simp only[U.I,TE.I,c2,<-mR.s 0 (by decide)]
  omega
 have g1:=fun r (hr:Pk.aq bT=some r)=>eG (c:=⟨bg [] GJ,[],[]⟩) (jz (List.forall_mem_nil _) (aik l1)) (List.forall_mem_nil _) (J.bq bT) (by rw[aoy];exact hr)
 have g2:=fun r (hr:PQ.aq ax=some r)=>eG (c:=⟨bg [] GL,[],[]⟩) (jz (List.forall_mem_nil _) (ain l2)) (List.forall_mem_nil _) (J.bq ax) (by rw[aqI];exact hr)
 have g1:=g1 _ (by unfold Pk;rw[T.aq,if_pos n1];rfl)
 have g2:=g2 _ (by unfold PQ;rw[T.aq,if_pos n2];rfl)
 rw[<-X.fI Eo [yw] (by kernel_rfl)]at g1
 rw[<-X.fI mR [yw] (by kernel_rfl)]at g2
 have acc:=adn (bT.i 101)
 have Sj:=ado (bT.i 101)
 generalize W:bT.i 101=R at acc Sj sm
 refine⟨if l7 R=0/\l8 R=0 then 1 else l7 R,l8 R,?_,Sj,?_,?_,?_⟩
 ·split<;>omega
 ·split<;>omega
 ·refine⟨g1.1,fun n hp => ?_⟩
  have g:=g1.2 n hp
  simp only[X.I,Sc.I,U.I,BE.I,a_.I,W]at g
  have bp:bits .and .u64 (ns R) 1048575 + -524288=l7 R:=rfl
  have bj:bits .and .u64 (a_.I .shr .u64 (ns R) 20) 1048575 + -524288=l8 R:=rfl
  simp only[ns,a_.I]at bp bj
  rw[bp,bj]at g
  have b:(l7 R==0&&l8 R==0)=decide (l7 R=0/\l8 R=0):=by rw[Bool.eq_iff_iff];simp
  rw[b]at g
  by_cases H:l7 R=0/\l8 R=0
  ·simp only[H,and_self,decide_true,if_true]at g ⊢
   exact g
  ·simp only[H,decide_false,Bool.false_eq_true,if_false]at g ⊢
   exact g
 ·refine⟨g2.1,fun n hp => ?_⟩
  have g:=g2.2 n hp
  have bp:=ZH _ (yD .u64 (.inr rfl) (ns R) 1048575 (by decide) (by decide))
  have bj:=ZH _ (yD .u64 (.inr rfl) (a_.I .shr .u64 (ns R) 20) 1048575 (by decide) (by decide))
  simp only[X.I,X.af,Sc.I,U.I,BE.I,a_.I,<-sm]at g
  have gU:bits .and .u64 (ns R) 1048575 + -524288=l7 R:=rfl
  have Ej:bits .and .u64 (a_.I .shr .u64 (ns R) 20) 1048575 + -524288=l8 R:=rfl
  rw[gU]at bp
  rw[Ej]at bj
  simp only[ns,a_.I]at bp bj
  rw[bp,bj]at g
  have b:(l7 R==0&&l8 R==0)=decide (l7 R=0/\l8 R=0):=by rw[Bool.eq_iff_iff];simp
  rw[b]at g
  by_cases H:l7 R=0/\l8 R=0
  ·simp only[H,and_self,decide_true,if_true]at g ⊢
   exact g
  ·simp only[H,decide_false,Bool.false_eq_true,if_false]at g ⊢
   exact g
end Go.Proofs.YtpdfmnhgocpkcaaGreat
