/- Parts of the logic that the proof runs in, one behind the other. -/
import Derived.Test.YtpdfmnhgocpkcaaGreatXwM2
import Derived.Test.YtpdfmnhgocpkcaaGreatAwM2
import Derived.ChangeReads
import Derived.ChangeShapes
import Derived.RowKit
import Derived.RowKit3
import Derived.Handed
namespace Go.Proofs.Xw
open Go Go.Proofs.Aw
structure Sub where
 i:List (Nat×IE)
 b:List (Nat×BE)
 s:List (Nat×TE)
def xw {α:Type} (k:Nat):List (Nat×α)->Option α
 | []=>none
 | (j,v)::r=>if Nat.beq j k=true then some v else xw k r
noncomputable def Sub.ap (σ:Sub) (J:Rho):Rho :=
  { J with i:=fun k=>match xw k σ.i with | some e=>e.den J | none=>J.i k,
           b:=fun k=>match xw k σ.b with | some e=>e.den J | none=>J.b k,
           s:=fun k=>match xw k σ.s with | some e=>e.den J | none=>J.s k }
mutual
def IE.pu (σ:Sub):IE->IE
 | .lit n => .lit n
 | .var i=>match xw i σ.i with | some e=>e | none => .var i
 | .cl l k j => .cl l k (j.pu σ)
 | .len l => .len l
 | .slen t=>uH (t.pu σ)
 | .byt t j=>UE (t.pu σ) (j.pu σ)
 | .op o k a b=>rP o k (a.pu σ) (b.pu σ)
 | .ite c a b=>lu (c.pu σ) (a.pu σ) (b.pu σ)
 | .uf k j a => .uf k j (a.pu σ)
def AL.pu (σ:Sub):AL->AL
 | .nil => .nil
 | .i e r => .i (e.pu σ) (r.pu σ)
 | .b e r => .b (e.pu σ) (r.pu σ)
 | .s e r => .s (e.pu σ) (r.pu σ)
def BE.pu (σ:Sub):BE->BE
 | .lit b => .lit b
 | .var i=>match xw i σ.b with | some e=>e | none => .var i
 | .cl l k j => .cl l k (j.pu σ)
 | .lt a b=>eU (a.pu σ) (b.pu σ)
 | .eq a b=>mkEq (a.pu σ) (b.pu σ)
 | .seq a b=>BV (a.pu σ) (b.pu σ)
 | .slt a b => .slt (a.pu σ) (b.pu σ)
 | .not a=>mkNot (a.pu σ)
 | .and a b=>mkAnd (a.pu σ) (b.pu σ)
 | .or a b=>AU (a.pu σ) (b.pu σ)
 | .ite c a b=>jg (c.pu σ) (a.pu σ) (b.pu σ)
def TE.pu (σ:Sub):TE->TE
 | .lit s => .lit s
 | .var i=>match xw i σ.s with | some e=>e | none => .var i
 | .cl l k j => .cl l k (j.pu σ)
 | .sub t a b => .sub (t.pu σ) (a.pu σ) (b.pu σ)
 | .ite c a b=>KE (c.pu σ) (a.pu σ) (b.pu σ)
end
mutual
theorem IE.pu_den (σ:Sub) (J:Rho):∀e:IE,(e.pu σ).den J=e.den (σ.ap J)
 | .lit n=>rfl
 | .var i=>by
  simp only[IE.pu,IE.den,Sub.ap]
  cases h:xw i σ.i<;>simp only[IE.den]
 | .cl l k j=>by simp only[IE.pu,IE.den,IE.pu_den σ J j];rfl
 | .len l=>rfl
 | .slen t=>by simp only[IE.pu,l9,IE.den,TE.pu_den σ J t]
 | .byt t j=>by simp only[IE.pu,IA,IE.den,TE.pu_den σ J t,IE.pu_den σ J j]
 | .op o k a b=>by simp only[IE.pu,jE,IE.den,IE.pu_den σ J a,IE.pu_den σ J b]
 | .ite c a b=>by simp only[IE.pu,jF,IE.den,BE.pu_den σ J c,IE.pu_den σ J a,IE.pu_den σ J b]
 | .uf _ _ a=>by simp only[IE.pu,IE.den,AL.pu_den σ J a]
theorem AL.pu_den (σ:Sub) (J:Rho):∀e:AL,(e.pu σ).den J=e.den (σ.ap J)
 | .nil=>rfl
 | .i e r=>by simp only[AL.pu,AL.den,IE.pu_den σ J e,AL.pu_den σ J r]
 | .b e r=>by simp only[AL.pu,AL.den,BE.pu_den σ J e,AL.pu_den σ J r]
 | .s e r=>by simp only[AL.pu,AL.den,TE.pu_den σ J e,AL.pu_den σ J r]
theorem BE.pu_den (σ:Sub) (J:Rho):∀e:BE,(e.pu σ).den J=e.den (σ.ap J)
 | .lit n=>rfl
 | .var i=>by
  simp only[BE.pu,BE.den,Sub.ap]
  cases h:xw i σ.b<;>simp only[BE.den]
 | .cl l k j=>by simp only[BE.pu,BE.den,IE.pu_den σ J j];rfl
 | .lt a b=>by simp only[BE.pu,dY,BE.den,IE.pu_den σ J a,IE.pu_den σ J b]
 | .eq a b=>by simp only[BE.pu,cZ,BE.den,IE.pu_den σ J a,IE.pu_den σ J b]
 | .seq a b=>by simp only[BE.pu,AQ,BE.den,TE.pu_den σ J a,TE.pu_den σ J b]
 | .slt a b=>by simp only[BE.pu,BE.den,TE.pu_den σ J a,TE.pu_den σ J b]
 | .not a=>by simp only[BE.pu,bz,BE.den,BE.pu_den σ J a]
 | .and a b=>by simp only[BE.pu,df,BE.den,BE.pu_den σ J a,BE.pu_den σ J b]
 | .or a b=>by simp only[BE.pu,jD,BE.den,BE.pu_den σ J a,BE.pu_den σ J b]
 | .ite c a b=>by simp only[BE.pu,dU,BE.den,BE.pu_den σ J c,BE.pu_den σ J a,BE.pu_den σ J b]
theorem TE.pu_den (σ:Sub) (J:Rho):∀e:TE,(e.pu σ).den J=e.den (σ.ap J)
 | .lit n=>rfl
 | .var i=>by
  simp only[TE.pu,TE.den,Sub.ap]
  cases h:xw i σ.s<;>simp only[TE.den]
 | .cl l k j=>by simp only[TE.pu,TE.den,IE.pu_den σ J j];rfl
 | .sub t a b=>by simp only[TE.pu,TE.den,TE.pu_den σ J t,IE.pu_den σ J a,IE.pu_den σ J b]
 | .ite c a b=>by simp only[TE.pu,EQ,TE.den,BE.pu_den σ J c,TE.pu_den σ J a,TE.pu_den σ J b]
end
def Sc.pu (σ:Sub):Sc->Sc
 | .i k e => .i k (e.pu σ)
 | .b e => .b (e.pu σ)
 | .s e => .s (e.pu σ)
 | .f n z => .f (n.pu σ) (z.pu σ)
 | .c n z m y => .c (n.pu σ) (z.pu σ) (m.pu σ) (y.pu σ)
theorem Sc.pu_den (σ:Sub) (J:Rho) (s:Sc):(s.pu σ).den J=s.den (σ.ap J):=by
 cases s<;>simp only[Sc.pu,Sc.den,IE.pu_den,BE.pu_den,TE.pu_den]
def RL.pu (σ:Sub):RL->RL
 | .var l ks => .var l ks
 | .one r => .one (r.map (Sc.pu σ))
 | .app n a b => .app (n.pu σ) (a.pu σ) (b.pu σ)
 | .drop n a => .drop (n.pu σ) (a.pu σ)
 | .upd i r a => .upd (i.pu σ) (r.map (Sc.pu σ)) (a.pu σ)
 | .ite c a b => .ite (c.pu σ) (a.pu σ) (b.pu σ)
theorem RL.pu_row (σ:Sub) (J:Rho):∀(l:RL) (j:Int),(l.pu σ).row J j=l.row (σ.ap J) j
 | .var l ks,j=>by
  simp only[RL.pu,RL.row]
  generalize j.toNat=m
  have:∀(ks:List Kd) (k:Nat),aW J l k ks m=aW (σ.ap J) l k ks m:=fun ks=>by
   induction ks with
   | nil=>intro k;rfl
   | cons kd ks ih=>intro k;cases kd<;>simp only[aW,ih]<;>rfl
  exact this ks 0
 | .one r,j=>by
  simp only[RL.pu,RL.row,mQ,List.map_map]
  congr 1
  funext s
  simp only[Function.comp,Sc.pu_den]
 | .app n a b,j=>by
  simp only[RL.pu,RL.row,RL.pu_row σ J a,RL.pu_row σ J b,IE.pu_den]
 | .drop n a,j=>by simp only[RL.pu,RL.row,RL.pu_row σ J a,IE.pu_den]
 | .upd i r a,j=>by
  simp only[RL.pu,RL.row,RL.pu_row σ J a,IE.pu_den,mQ,List.map_map]
  congr 2
  funext s
  simp only[Function.comp,Sc.pu_den]
 | .ite c a b,j=>by simp only[RL.pu,RL.row,RL.pu_row σ J a,RL.pu_row σ J b,BE.pu_den]
theorem VV (σ:Sub) (J:Rho) (n:IE) (l:RL):aC J (n.pu σ) (l.pu σ)=aC (σ.ap J) n l:=by
 unfold aC
 rw[IE.pu_den]
 congr 1
 funext j
 exact RL.pu_row σ J l j
theorem Gm (σ:Sub) (J:Rho) (l m:Nat):∀(ks:List Kd) (k:Nat),aW J l k ks m=aW (σ.ap J) l k ks m
 | [],_=>rfl
 | kd::ks,k=>by cases kd<;>simp only[aW,Gm σ J l m ks (k+1)]<;>rfl
theorem yt (σ:Sub) (J:Rho) (l m:Nat):∀(ks:List Nk) (k:Nat),dQ J l k ks m=dQ (σ.ap J) l k ks m
 | [],_=>rfl
 | .f kd::ks,k=>by cases kd<;>simp only[dQ,ve,yt σ J l m ks (k+1)]<;>rfl
 | .r z S kk::ks,k=>by
  simp only[dQ,uu,yt σ J l m ks (k+1),Gm σ J S]
  rfl
theorem VT (σ:Sub) (J:Rho) (n:IE) (l:Nat) (ks:List Nk):jB J (n.pu σ) l ks=jB (σ.ap J) n l ks:=by
 unfold jB
 rw[IE.pu_den]
 congr 1
 funext j
 exact yt σ J l j ks 0
theorem VR (σ:Sub) (J:Rho) (z:Nat) (m:IE) (t:Nat):bD J z (m.pu σ) t=bD (σ.ap J) z m t:=by
 unfold bD
 rw[IE.pu_den]
 rfl
def Pm (σ:Sub):List (BE×Nat)->List (BE×Nat)
 | []=>[]
 | (c,o)::r=>(c.pu σ,o)::Pm σ r
theorem yg (σ:Sub) (J:Rho) (d:Nat):∀az,choose J (Pm σ az) d=choose (σ.ap J) az d
 | []=>rfl
 | (c,o)::r=>by simp only[Pm,choose,BE.pu_den,yg σ J d r]
mutual
def X.pu (σ:Sub):X->X
 | .top => .top
 | .k v => .k v
 | .sc s => .sc (s.pu σ)
 | .agg cs => .agg (X.puL σ cs)
 | .tup cs => .tup (X.puL σ cs)
 | .ptr n az d => .ptr n (Pm σ az) d
 | .sl n z off len own => .sl n z off len own
 | .ip cs az d => .ip (X.puL σ cs) (Pm σ az) d
 | .ro z es full => .ro z (X.puE σ es) full
 | .rl z n l full => .rl z (n.pu σ) (l.pu σ) full
 | .rn z n l ks full => .rn z (n.pu σ) l ks full
 | .tk z m t es => .tk z (m.pu σ) t (X.puE σ es)
 | .tq z m t es full => .tq z (m.pu σ) t (X.puE σ es) full
 | .cel t o j => .cel t o (j.pu σ)
 | .fn f xs ys => .fn f (X.puL σ xs) (X.puL σ ys)
 | .gd c x => .gd (c.pu σ) (x.pu σ)
 | .rows z n l => .rows z (n.pu σ) (l.pu σ)
 | .slv n z o l w => .slv n z (o.pu σ) (l.pu σ) w
 | .ptrv n z j o => .ptrv n z (j.pu σ) o
def X.puL (σ:Sub):List X->List X
 | []=>[]
 | x::xs=>x.pu σ::X.puL σ xs
def X.puE (σ:Sub):List (List X)->List (List X)
 | []=>[]
 | e::es=>X.puL σ e::X.puE σ es
end
mutual
theorem X.pu_den (σ:Sub) (J:Rho):∀x:X,(x.pu σ).den J=x.den (σ.ap J)
 | .top=>rfl
 | .k v=>rfl
 | .sc s=>by simp only[X.pu,X.den,Sc.pu_den]
 | .agg cs=>by simp only[X.pu,X.den,X.puL_den σ J cs]
 | .tup cs=>by simp only[X.pu,X.den,X.puL_den σ J cs]
 | .ptr n az d=>by simp only[X.pu,X.den,yg]
 | .sl n z off len own=>rfl
 | .ip cs az d=>by simp only[X.pu,X.den,X.puL_den σ J cs,yg]
 | .ro z es full=>by simp only[X.pu,X.den,X.puE_den σ J es]
 | .rl z n l full=>by simp only[X.pu,X.den,VV]
 | .rn z n l ks full=>by simp only[X.pu,X.den,VT]
 | .tk z m t es=>by simp only[X.pu,X.den]
 | .tq z m t es full=>by simp only[X.pu,X.den,VR,X.puE_den σ J es]
 | .cel t o j=>by simp only[X.pu,X.den,IE.pu_den];rfl
 | .fn f xs ys=>by simp only[X.pu,X.den,X.puL_den σ J xs,X.puL_den σ J ys]
 | .gd c x=>by simp only[X.pu,X.den,BE.pu_den,X.pu_den σ J x]
 | .rows z n l=>by simp only[X.pu,X.den]
 | .slv n z o l w=>by simp only[X.pu,X.den,IE.pu_den]
 | .ptrv n z j o=>by simp only[X.pu,X.den,IE.pu_den]
theorem X.puL_den (σ:Sub) (J:Rho):∀x:List X,X.denL J (X.puL σ x)=X.denL (σ.ap J) x
 | []=>rfl
 | x::xs=>by simp only[X.puL,X.denL,X.pu_den σ J x,X.puL_den σ J xs]
theorem X.puE_den (σ:Sub) (J:Rho):∀x:List (List X),X.denE J (X.puE σ x)=X.denE (σ.ap J) x
 | []=>rfl
 | x::xs=>by simp only[X.puE,X.denE,X.puL_den σ J x,X.puE_den σ J xs]
end
mutual
def X.fit:X->X->Sub->Option Sub
 | .sc (.i kk (.var i)),.sc (.i kk' e),σ=>if A7 kk kk'=true then some { σ with i:=(i,e)::σ.i }else none
 | .sc (.b (.var i)),.sc (.b e),σ=>some { σ with b:=(i,e)::σ.b }
 | .sc (.s (.var i)),.sc (.s e),σ=>some { σ with s:=(i,e)::σ.s }
 | .sc (.c (.var i) _ (.var j) _),.sc (.c e _ f _),σ=>some { σ with i:=(i,e)::(j,f)::σ.i }
 | .agg cs,.agg ds,σ=>X.fitL cs ds σ
 | .tup cs,.tup ds,σ=>X.fitL cs ds σ
 | .ro z es _,.ro z' ds _,σ=>if Nat.beq z z'=true then X.fitE es ds σ else none
 | _,_,σ=>some σ
def X.fitL:List X->List X->Sub->Option Sub
 | [],[],σ=>some σ
 | a::az,b::bs,σ=>match X.fit a b σ with
  | some σ=>X.fitL az bs σ
  | none=>none
 | _,_,_=>none
def X.fitE:List (List X)->List (List X)->Sub->Option Sub
 | [],[],σ=>some σ
 | a::az,b::bs,σ=>match X.fitL a b σ with
  | some σ=>X.fitE az bs σ
  | none=>none
 | _,_,_=>none
end
def X.unf:X->X
 | .ro z es _ => .ro z es false
 | .rl z n l _ => .rl z n l false
 | .rn z n l ks _ => .rn z n l ks false
 | .tq z m t es _ => .tq z m t es false
 | x=>x
theorem YZ {J:Rho} {C:Ctx} (x:X) {u:Value} (h:Conc C (x.den J) u):Conc C (x.unf.den J) u:=by
 cases x<;>first | exact h | (simp only[X.unf,X.den]at h ⊢;exact DC (f':=false) (fun h=>(nomatch h)) h)
theorem Ad {J:Rho} (C:Ctx):∀(l:List X) (vs:List Value),ConcL C (X.denL J l) vs->ConcL C (X.denL J (l.map X.unf)) vs
 | [],_,h=>h
 | x::xs,_,⟨u,us,e,h1,h2⟩=>⟨u,us,e,YZ x h1,Ad C xs us h2⟩
def ZR:BE->BE
 | .and a b=>mkAnd (ZR a) (ZR b)
 | a=>a
theorem EC (J:Rho):∀a:BE,(ZR a).den J=a.den J
 | .and a b=>by simp only[ZR,df,EC J a,EC J b,BE.den]
 | .lit _ | .var _ | .cl _ _ _ | .lt _ _ | .eq _ _ | .seq _ _ | .slt _ _ | .not _ | .or _ _ | .ite _ _ _=>rfl
structure Sm where
 f:Nat
 pat:List X
 r:X
 pre:BE
def iF (P:Program) (s:Sm):Prop:=aQ P s.f=true/\∀(J:Rho) (n:Nat) (h:Hp),s.pre.den J=true->CY P n s.f (X.denL J s.pat) h (s.r.den J) []
def aO1 (args:List X) (s:Sm):Option (BE×X) :=
 let args:=args.map X.unf
 match X.fitL s.pat args ⟨[],[],[]⟩with
 | some σ=>if X.beqL (X.puL σ s.pat) args=true then some (ZR (s.pre.pu σ),s.r.pu σ)else none
 | none=>none
def Om (f:Nat) (args:List X):List Sm->Option (BE×X)
 | []=>none
 | s::l=>if Nat.beq s.f f=true then(match aO1 args s with
  | some r=>some r
  | none=>Om f args l)else Om f args l
theorem EX {P:Program} {J:Rho} {n:Nat} {h:Hp} {f:Nat} {args:List X} {c:BE} {r:X}:∀{l:List Sm},(∀s∈l,iF P s)->Om f args l=some (c,r)->aQ P f=true/\(c.den J=true->CY P n f (X.denL J args) h (r.den J) [])
 | [],_,hl=>by cases hl
 | s::l,hs,hl=>by
  have hs':∀s∈l,iF P s:=fun t ht=>hs t (List.mem_cons_of_mem _ ht)
  simp only[Om]at hl
  split at hl
  ·rename_i hf
   have hf:=Nat.eq_of_beq_eq_true hf
   split at hl
   ·rename_i r' hu
    cases hl
    obtain⟨h1,h2⟩:=hs s List.mem_cons_self
    unfold aO1 at hu
    simp only at hu
    split at hu
    ·rename_i σ _
     split at hu
     ·rename_i hb
      cases hu
      have hb:=X.beqL_eq _ _ hb
      have:=h2 (σ.ap J) n h
      rw[hf]at this h1
      refine⟨h1,fun hc => ?_⟩
      rw[EC,BE.pu_den]at hc
      have:=this hc
      rw[<-X.puL_den,<-X.pu_den,hb]at this
      exact fun C vs hh hL hn=>this C vs hh (Ad C args vs hL) hn
     ·cases hu
    ·cases hu
   ·exact EX hs' hl
  ·exact EX hs' hl
theorem Zv (J:Rho) (r:List Sc):∀x∈mQ J r,∃v,x=AV.sc v:=fun x hx=>by
 obtain⟨s,_,rfl⟩:=List.mem_map.1 hx
 exact⟨_,rfl⟩
theorem wJ (J:Rho) (l j:Nat):∀(ks:List Kd) (k:Nat),∀x∈aW J l k ks j,∃v,x=AV.sc v
 | [],_,x,hx=>by simp[aW]at hx
 | .i _::ks,k,x,hx=>by
  simp only[aW,List.mem_cons]at hx
  rcases hx with rfl | hx
  ·exact⟨_,rfl⟩
  ·exact wJ J l j ks (k+1) x hx
 | .b::ks,k,x,hx=>by
  simp only[aW,List.mem_cons]at hx
  rcases hx with rfl | hx
  ·exact⟨_,rfl⟩
  ·exact wJ J l j ks (k+1) x hx
 | .s::ks,k,x,hx=>by
  simp only[aW,List.mem_cons]at hx
  rcases hx with rfl | hx
  ·exact⟨_,rfl⟩
  ·exact wJ J l j ks (k+1) x hx
theorem xB (J:Rho):∀(l:RL) (j:Int),∀x∈l.row J j,∃v,x=AV.sc v
 | .var l ks,j=>wJ J l _ ks 0
 | .one r,j=>Zv J r
 | .app n a b,j=>by
  simp only[RL.row]
  split
  ·exact xB J a _
  ·exact xB J b _
 | .drop n a,j=>xB J a _
 | .upd i r a,j=>by
  simp only[RL.row]
  split
  ·exact Zv J r
  ·exact xB J a _
 | .ite c a b,j=>by
  simp only[RL.row]
  split
  ·exact xB J a _
  ·exact xB J b _
def ba1 (z:Nat) (es:List (List X)):Bool:=es.all fun e=>Nat.beq e.length z&&(X.nnL e&&e.all X.one)
def clR (Φ:Facts) (z:Nat):X->Bool
 | .ro z' [] _=>Nat.beq z' z
 | .rl z' n _ _=>Nat.beq z' z&&(match red Φ (mkEq n (.lit 0))with | .lit true=>true | _=>false)
 | _=>false
theorem bl8 {J:Rho} {Φ:Facts} (hk:Facts.ok J Φ) {z:Nat} {x:X} (h:clR Φ z x=true):∃full,x.den J = .ro z [] full:=by
 unfold clR at h
 split at h
 ·rw[Nat.eq_of_beq_eq_true h];exact⟨_,rfl⟩
 ·rename_i n _ _
  simp only[Bool.and_eq_true]at h
  obtain⟨h1,h2⟩:=h
  have h1:=Nat.eq_of_beq_eq_true h1
  subst h1
  split at h2
  ·rename_i e
   have hr:=bu hk (mkEq n (.lit 0))
   rw[e,cZ]at hr
   have hr:n.den J=0:=eq_of_beq (show(n.den J==0)=true from hr.symm)
   have e0:∀l,aC J n l=[]:=fun l=>by unfold aC;rw[hr];rfl
   exact⟨_,by simp only[X.den,e0];rfl⟩
  ·cases h2
 ·cases h
def UJ (f:Nat) (args:List X) (Φ:Facts):List (Nat×Nat)->Option X
 | []=>none
 | (g,z)::l=>if Nat.beq g f=true then(match args with
  | [x]=>if clR Φ z x=true then some (.ro z [] false)else none
  | _=>none)else UJ f args Φ l
theorem Oq {P:Program} {J:Rho} {Φ:Facts} (hk:Facts.ok J Φ) {n f:Nat} {args:List X} {h:Hp} {r:X}:∀{l:List (Nat×Nat)},(∀k∈l,SB P k)->UJ f args Φ l=some r->aQ P f=true/\CY P n f (X.denL J args) h (r.den J) []
 | [],_,hq=>by cases hq
 | (g,z)::l,hc,hq=>by
  simp only[UJ]at hq
  split at hq
  ·rename_i hf
   have hf:=Nat.eq_of_beq_eq_true hf
   subst hf
   split at hq
   ·rename_i x
    split at hq
    ·rename_i hx
     cases hq
     obtain⟨full,e⟩:=bl8 hk hx
     obtain⟨g1,g2⟩:=hc _ List.mem_cons_self
     refine⟨g1,?_⟩
     simp only[X.denL,e]
     exact g2 full n h
    ·cases hq
   ·cases hq
  ·exact Oq hk (fun k hk'=>hc k (List.mem_cons_of_mem _ hk')) hq
structure Cfg2 where
 c:Cfg
 sm:List Sm
 hf:List Nat
def zh (n:Nat):List Nat->Bool
 | []=>false
 | k::l=>Nat.beq k n||zh n l
mutual
def X.plain:X->Bool
 | .top | .k _ | .sc _ | .rows _ _ _=>true
 | .agg cs | .tup cs=>X.plainL cs
 | .gd _ x=>x.plain
 | .ro _ [] _=>true
 | _=>false
def X.plainL:List X->Bool
 | []=>true
 | x::xs=>x.plain&&X.plainL xs
end
mutual
theorem X.plain_den (J:Rho):∀x:X,x.plain=true->J9 (x.den J)=true
 | .top,_=>rfl
 | .k _,_=>rfl
 | .sc _,_=>rfl
 | .rows _ _ _,_=>rfl
 | .agg cs,h=>X.plainL_den J cs h
 | .tup cs,h=>X.plainL_den J cs h
 | .gd c x,h=>by
  simp only[X.den]
  split
  ·exact X.plain_den J x h
  ·rfl
 | .ptr _ _ _,h=>by cases h
 | .sl _ _ _ _ _,h=>by cases h
 | .ip _ _ _,h=>by cases h
 | .ro _ [] _,_=>rfl
 | .ro _ (_::_) _,h=>by cases h
 | .rl _ _ _ _,h=>by cases h
 | .rn _ _ _ _ _,h=>by cases h
 | .tk _ _ _ _,h=>by cases h
 | .tq _ _ _ _ _,h=>by cases h
 | .cel _ _ _,h=>by cases h
 | .fn _ _ _,h=>by cases h
 | .slv _ _ _ _ _,h=>by cases h
 | .ptrv _ _ _ _,h=>by cases h
theorem X.plainL_den (J:Rho):∀l:List X,X.plainL l=true->rJ (X.denL J l)=true
 | [],_=>rfl
 | x::xs,h=>by
  simp only[X.plainL,Bool.and_eq_true]at h
  simp only[X.denL,rJ,X.plain_den J x h.1,X.plainL_den J xs h.2,Bool.and_self]
end
def ZJ:Rows->Bool
 | .c es=>X.nnE es
 | .r _ _=>true
theorem Qv {J:Rho} {r:Rows} (h:ZJ r=true):nmsE (fun _=>false) (r.den J)=true:=by
 cases r with
 | c es=>exact X.nnE_den J es h
 | r n l=>exact lq
def aI4 (h : bg) (Φ : Facts) (z : Nat) (x : X) : T X := if Nat.blt 0 z = true then (F6 h Φ z x).bind Φ fun _ r => if ZJ r = true then .ret (r.ro z) else .fail ["frz"] else .fail ["frz"]
def qI (z:Nat) (off len:IE) (z':Nat) (k:IE) (es:List (List X)):Bool:=Nat.blt 0 z&&(Nat.beq z' z&&(off.beq (.lit 0)&&(len.beq (fC k (.lit es.length))&&(k.nn&&(es.all (fun e=>Nat.beq e.length z)&&X.nnE es)))))
def OL (h:bg) (Φ:Facts) (x:X):T X :=
 if x.nn=true then .ret x else match x with
  | .slv m z off len own=>match aT h m with
   | some [.tk z' k t es] => if qI z off len z' k es = true then .ret (.tq z k t es false) else .fail ["frz"]
   | _=>aI4 h Φ z (.slv m z off len own)
  | .sl m z off len own=>aI4 h Φ z (.sl m z off len own)
  | _ => .ret .top
theorem U5 {J:Rho} {h:bg} {Φ:Facts} (hk:Facts.ok J Φ) {z:Nat} {x y:X} (hs:(aI4 h Φ z x).sel J=some y):0<z/\∃fs,fA (aV J h) z (x.den J)=some fs/\nmsE (fun _=>false) fs=true/\y.den J = .ro z fs false:=by
 unfold aI4 at hs
 split at hs
 ·rename_i hz
  obtain⟨_,r,hk',h1,h2⟩:=T.sel_bind _ hk hs
  split at h2
  ·rename_i hn
   cases h2
   exact⟨by simpa [Nat.blt_eq]using hz,_,FZ hk h1,Qv hn,Rows.ro_den J z r⟩
  ·cases h2
 ·cases hs
theorem aI3 {J:Rho} {h:bg} {m:Nm} {z:Nat} {off len:IE} {own:Bool} {z':Nat} {k:IE} {t:Nat} {es:List (List X)} (hg:aT h m=some [.tk z' k t es]) (hc:qI z off len z' k es=true):PQ (aV J h) ((X.slv m z off len own).den J) ((X.tq z k t es false).den J):=by
 simp only[qI,Bool.and_eq_true,Nat.blt_eq]at hc
 obtain⟨g1,g2,g3,g4,g5,g6,g7⟩:=hc
 have g2:=Nat.eq_of_beq_eq_true g2
 have g3:=IE.beq_eq _ _ g3
 have g4:=IE.beq_eq _ _ g4
 subst g2 g3 g4
 have k0:=IE.nn_den J k g5
 have hT:(bD J z' k t).length=(k.den J).toNat:=by unfold bD;rw[List.length_map,List.length_range]
 have hE:(X.denE J es).length=es.length:=by simp[X.denE_eq]
 have hl:(bD J z' k t++X.denE J es).length=(k.den J).toNat+es.length:=by rw[List.length_append,hT,hE]
 have hn:((fC k (.lit es.length)).den J).toNat=(k.den J).toNat+es.length:=by rw[bK];simp only[IE.den];omega
 refine .inr ⟨m,z',0,(k.den J).toNat+es.length,own,bD J z' k t++X.denE J es,?_,g1,?_,uF jL (X.nnE_den J es g7),rfl⟩
 ·simp only[X.den,hn,IE.den,Int.toNat_zero,Nat.zero_mul]
 ·have hfl:(bD J z' k t++X.denE J es).flatten.length=((k.den J).toNat+es.length)*z':=by
   rw[flat_length _ (fun j e h=>P9 g6 j e h),hl]
  have hget:hget (aV J h) m=some (bD J z' k t++X.denE J es).flatten:=by rw[aG,hg];rfl
  simp only[X.den,hn,IE.den,Int.toNat_zero,Nat.zero_mul,fA,hget,Option.bind_some]
  rw[if_pos ⟨trivial,by rw[hfl,Nat.zero_add];exact Nat.le_refl _⟩,List.drop_zero,uY _ _ (fun j e h=>P9 g6 j e h) (by rw[hl];exact Nat.le_refl _),List.take_of_length_le (by rw[hl];exact Nat.le_refl _)]
theorem FD {J:Rho} {h:bg} {Φ:Facts} (hk:Facts.ok J Φ) {x y:X} (hs:(OL h Φ x).sel J=some y)   : PQ (aV J h) (x.den J) (y.den J):=by
 unfold OL at hs
 split at hs
 ·rename_i hn
  cases hs
  exact .inl (.inr ⟨rfl,X.nn_den J _ hn⟩)
 ·split at hs
  ·split at hs
   ·rename_i hg
    split at hs
    ·rename_i hc
     cases hs
     exact aI3 hg hc
    ·cases hs
   ·obtain⟨h0,fs,h1,h2,h3⟩:=U5 hk hs
    exact .inr ⟨_,_,_,_,_,_,rfl,h0,h1,h2,h3⟩
  ·obtain⟨h0,fs,h1,h2,h3⟩:=U5 hk hs
   exact .inr ⟨_,_,_,_,_,_,rfl,h0,h1,h2,h3⟩
  ·cases hs
   exact .inl (.inl rfl)
def IW (h:bg) (Φ:Facts):List X->T (List X)
 | [] => .ret []
 | x::xs=>(OL h Φ x).bind Φ fun Φ y=>(IW h Φ xs).bind Φ fun _ ys => .ret (y::ys)
theorem zG {J:Rho} {h:bg}:∀{xs ys:List X} {Φ:Facts},Facts.ok J Φ->(IW h Φ xs).sel J=some ys->FrzL0 (aV J h) (X.denL J xs) (X.denL J ys)
 | [],ys,Φ,_,hs=>by cases hs;rfl
 | x::xs,ys,Φ,hk,hs=>by
  simp only[IW]at hs
  obtain⟨Φ1,y,hk1,h1,hs⟩:=T.sel_bind _ hk hs
  obtain⟨_,zs,_,h2,hs⟩:=T.sel_bind _ hk1 hs
  cases hs
  exact⟨_,_,rfl,FD hk h1,zG hk1 h2⟩
def U4 (h:bg) (Φ:Facts) (x:X):T X:=match x with
 | .ptr m az d=>match aT h m with
  | some cs => if aZ cs = true then .fail ["frz"] else (IW h Φ cs).bind Φ fun _ ys => .ret (.ip ys az d)
  | none => .fail ["frz"]
 | .agg cs=>(IW h Φ cs).bind Φ fun _ ys => .ret (.agg ys)
 | x=>OL h Φ x
theorem OJ {J:Rho} {h:bg} {Φ:Facts} (hk:Facts.ok J Φ) {x y:X} (hs:(U4 h Φ x).sel J=some y):aN5 (aV J h) (x.den J) (y.den J):=by
 unfold U4 at hs
 split at hs
 ·split at hs
  ·rename_i cs hg
   split at hs
   ·cases hs
   ·rename_i hr
    obtain⟨_,ys,_,h1,h2⟩:=T.sel_bind _ hk hs
    cases h2
    refine .inr (.inl ⟨_,_,X.denL J cs,X.denL J ys,rfl,?_,zG hk h1,rfl⟩)
    rw[aG,hg,Option.map_some,bC (by simpa using hr)]
  ·cases hs
 ·obtain⟨_,ys,_,h1,h2⟩:=T.sel_bind _ hk hs
  cases h2
  exact .inr (.inr ⟨_,_,rfl,zG hk h1,rfl⟩)
 ·exact .inl (FD hk hs)
def OM (h:bg) (Φ:Facts):List X->T (List X)
 | [] => .ret []
 | x::xs=>(U4 h Φ x).bind Φ fun Φ y=>(OM h Φ xs).bind Φ fun _ ys => .ret (y::ys)
theorem FH {J:Rho} {h:bg}:∀{xs ys:List X} {Φ:Facts},Facts.ok J Φ->(OM h Φ xs).sel J=some ys->Js (aV J h) (X.denL J xs) (X.denL J ys)
 | [],ys,Φ,_,hs=>by cases hs;rfl
 | x::xs,ys,Φ,hk,hs=>by
  simp only[OM]at hs
  obtain⟨Φ1,y,hk1,h1,hs⟩:=T.sel_bind _ hk hs
  obtain⟨_,zs,_,h2,hs⟩:=T.sel_bind _ hk1 hs
  cases hs
  exact⟨_,_,rfl,OJ hk h1,FH hk1 h2⟩
def bi2 (h:bg) (Φ:Facts) (x:X):T X:=match x with
 | .fn f xs ys=>(OM h Φ xs).bind Φ fun Φ us=>(OM h Φ ys).bind Φ fun _ vs => .ret (.fn f us vs)
 | x=>U4 h Φ x
theorem aI2 {J:Rho} {h:bg} {Φ:Facts} (hk:Facts.ok J Φ) {x y:X} (hs:(bi2 h Φ x).sel J=some y):Frz (aV J h) (x.den J) (y.den J):=by
 unfold bi2 at hs
 split at hs
 ·obtain⟨Φ1,us,hk1,h1,hs⟩:=T.sel_bind _ hk hs
  obtain⟨_,vs,_,h2,hs⟩:=T.sel_bind _ hk1 hs
  cases hs
  exact .inr ⟨_,_,_,_,_,rfl,FH hk h1,FH hk1 h2,rfl⟩
 ·exact .inl (OJ hk hs)
def Q4 (h:bg) (Φ:Facts):List X->T (List X)
 | [] => .ret []
 | x::xs=>(bi2 h Φ x).bind Φ fun Φ y=>(Q4 h Φ xs).bind Φ fun _ ys => .ret (y::ys)
theorem zD {J:Rho} {h:bg}:∀{xs ys:List X} {Φ:Facts},Facts.ok J Φ->(Q4 h Φ xs).sel J=some ys->Yq (aV J h) (X.denL J xs) (X.denL J ys)
 | [],ys,Φ,_,hs=>by cases hs;rfl
 | x::xs,ys,Φ,hk,hs=>by
  simp only[Q4]at hs
  obtain⟨Φ1,y,hk1,h1,hs⟩:=T.sel_bind _ hk hs
  obtain⟨_,zs,_,h2,hs⟩:=T.sel_bind _ hk1 hs
  cases hs
  exact⟨_,_,rfl,aI2 hk h1,zD hk1 h2⟩
mutual
def X.own (n:Nat):X->Bool
 | .top | .k _ | .sc _ | .rows _ _ _=>true
 | .agg cs | .tup cs=>X.ownL n cs
 | .gd _ x=>x.own n
 | .ptr m _ _=>Nat.beq m.1 n
 | .sl m _ _ _ _=>Nat.beq m.1 n
 | .slv m _ _ _ _=>Nat.beq m.1 n
 | .ro _ [] _=>true
 | _=>false
def X.ownL (n:Nat):List X->Bool
 | []=>true
 | x::xs=>x.own n&&X.ownL n xs
end
mutual
theorem X.own_den (J:Rho) (n:Nat):∀x:X,x.own n=true->Qy n (x.den J)=true
 | .top,_=>rfl
 | .k _,_=>rfl
 | .sc _,_=>rfl
 | .rows _ _ _,_=>rfl
 | .agg cs,h=>X.ownL_den J n cs h
 | .tup cs,h=>X.ownL_den J n cs h
 | .gd c x,h=>by
  simp only[X.den]
  split
  ·exact X.own_den J n x h
  ·rfl
 | .ptr _ _ _,h=>h
 | .sl _ _ _ _ _,h=>h
 | .slv _ _ _ _ _,h=>h
 | .ip _ _ _,h=>by cases h
 | .ro _ [] _,_=>rfl
 | .ro _ (_::_) _,h=>by cases h
 | .rl _ _ _ _,h=>by cases h
 | .rn _ _ _ _ _,h=>by cases h
 | .tk _ _ _ _,h=>by cases h
 | .tq _ _ _ _ _,h=>by cases h
 | .cel _ _ _,h=>by cases h
 | .fn _ _ _,h=>by cases h
 | .ptrv _ _ _ _,h=>by cases h
theorem X.ownL_den (J:Rho) (n:Nat):∀l:List X,X.ownL n l=true->nM n (X.denL J l)=true
 | [],_=>rfl
 | x::xs,h=>by
  simp only[X.ownL,Bool.and_eq_true]at h
  simp only[X.denL,nM,X.own_den J n x h.1,X.ownL_den J n xs h.2,Bool.and_self]
end
theorem Ik {n:Nat}:∀{l:List AV},(∀x∈l,∃v,x = .sc v)->nM n l=true
 | [],_=>rfl
 | x::l,h=>by
  obtain⟨v,rfl⟩:=h x List.mem_cons_self
  simp only[nM,Qy,Ik fun y hy=>h y (List.mem_cons_of_mem _ hy),Bool.and_self]
theorem am2 (J:Rho) (n:Nat) (cs:List X) (h:X.ownL n cs=true):nM n (aF J cs)=true:=by
 unfold aF
 split
 ·rename_i z m l
  refine Ik fun x hx => ?_
  obtain⟨r,hr,hx⟩:=List.mem_flatten.1 hx
  obtain⟨j,_,rfl⟩:=List.mem_map.1 hr
  exact xB J l j x hx
 ·simp[X.ownL,X.own]at h
 ·exact X.ownL_den J n cs h
def aa1 (n:Nat) (d:dR):Bool:=d.all fun q=>Nat.beq q.1.1 n&&(match q.2 with | some cs=>X.ownL n cs | none=>false)
theorem Ij (J:Rho) {n:Nat} {d:dR} (h:aa1 n d=true):a97 n (bZ J d):=fun q hq=>by
 obtain⟨p,hp,rfl⟩:=List.mem_map.1 hq
 have h:=List.all_eq_true.1 h p hp
 rw[Bool.and_eq_true]at h
 obtain⟨h1,h2⟩:=h
 refine⟨Nat.eq_of_beq_eq_true h1,?_⟩
 cases ho:p.2 with
 | none=>rw[ho]at h2;cases h2
 | some cs =>
  rw[ho]at h2
  exact⟨aF J cs,by rw[Option.map_some],am2 J n cs h2⟩
def U0 (c:Cfg2) (call:bI) (n f:Nat) (args:List X) (Φ:Facts):T (X×dR):=match EY n f args [] c.c.kh with
 | some p => .ret p
 | none=>IQ c.c call n f args [] Φ
def stepG (c:Cfg2) (call:bI) (n f:Nat) (args:List X) (h:bg) (Φ:Facts):T (X×dR) :=
 (Q4 h Φ args).bind Φ fun Φ ys => (U0 c call n f ys Φ).bind Φ fun _ p => if (p.1.own n && aa1 n p.2) = true then .ret p else .fail ["own"]
def az5 (h:bg) (Φ:Facts) (x:X):T X:=match x with
 | .agg cs=>(IW h Φ cs).bind Φ fun _ ys => .ret (.agg ys)
 | x=>OL h Φ x
theorem TY {J:Rho} {h:bg} {Φ:Facts} (hk:Facts.ok J Φ) {x y:X} (hs:(az5 h Φ x).sel J=some y):Ro1 (aV J h) (x.den J) (y.den J):=by
 unfold az5 at hs
 split at hs
 ·obtain⟨_,ys,_,h1,h2⟩:=T.sel_bind _ hk hs
  cases h2
  exact .inr ⟨_,_,rfl,rfl,zG hk h1⟩
 ·exact .inl (FD hk hs)
def az4 (h:bg) (Φ:Facts):List X->T (List X)
 | [] => .ret []
 | x::xs=>(az5 h Φ x).bind Φ fun Φ y=>(az4 h Φ xs).bind Φ fun _ ys => .ret (y::ys)
theorem TW {J:Rho} {h:bg}:∀{xs ys:List X} {Φ:Facts},Facts.ok J Φ->(az4 h Φ xs).sel J=some ys->aq3 (aV J h) (X.denL J xs) (X.denL J ys)
 | [],ys,Φ,_,hs=>by cases hs;rfl
 | x::xs,ys,Φ,hk,hs=>by
  simp only[az4]at hs
  obtain⟨Φ1,y,hk1,h1,hs⟩:=T.sel_bind _ hk hs
  obtain⟨_,zs,_,h2,hs⟩:=T.sel_bind _ hk1 hs
  cases hs
  exact⟨_,_,rfl,TY hk h1,TW hk1 h2⟩
def roX (h:bg) (Φ:Facts) (x:X):T X:=match x with
 | .tup vs=>(az4 h Φ vs).bind Φ fun _ ys => .ret (.tup ys)
 | x=>az5 h Φ x
theorem aZ1 {J:Rho} {h:bg} {Φ:Facts} (hk:Facts.ok J Φ) {x y:X} (hs:(roX h Φ x).sel J=some y):Ro (aV J h) (x.den J) (y.den J):=by
 unfold roX at hs
 split at hs
 ·obtain⟨_,ys,_,h1,h2⟩:=T.sel_bind _ hk hs
  cases h2
  exact .inr ⟨_,_,rfl,rfl,TW hk h1⟩
 ·exact .inl (TY hk hs)
def TF (c:Cfg2) (call:bI) (n f:Nat) (args:List X) (h:bg) (Φ:Facts):T (X×dR) :=
 (Q4 h Φ args).bind Φ fun Φ ys => (U0 c call n f ys Φ).bind Φ fun Φ p => if (p.1.own n && aa1 n p.2) = true then (roX (tZ p.2 []) Φ p.1).bind Φ fun _ r => .ret (r, []) else .fail ["own"]
def TG (c:Cfg2) (call:bI) (f:Nat) (args:List X) (Φ:Facts):T (X×dR):=match Oo f args c.c.ks with
 | some r => .ret (r,[])
 | none=>match Om f args c.sm with
  | some (c,r)=>want Φ c fun _ => .ret (r,[])
  | none => if X.nnL args = true then BQ c.c call f args Φ else .fail ["args"]
def MV (c:Cfg2) (call:bI) (f:Nat) (args:List X) (h:bg) (Φ:Facts):T (X×dR) :=
 (Q4 h Φ args).bind Φ fun Φ ys=>(TG c call f ys Φ).bind Φ fun _ p=>match p.2 with
  | [] => if p.1.plain = true then .ret (p.1, []) else .fail ["plain"]
  | _ => .fail ["plain"]
def eqX:List X->Option BE
 | [.rl z n l _,.rl z' n' l' _]=>if(Nat.beq z 1&&(Nat.beq z' 1&&(n.beq n'&&(l.beq l'&&l.kd [.s]))))=true then some (mkNot (eU (.lit 4611686018427387904) n))else none
 | _=>none
def Zo (c:Cfg2) (call:bI) (f:Nat) (args:List X) (h:bg) (Φ:Facts):T (X×dR) :=
 (Q4 h Φ args).bind Φ fun Φ ys=>match eqX ys with
  | some b=>want Φ b fun _ => .ret (.sc (.b (.lit true)),[])
  | none=>MV c call f args h Φ
def stepS (c:Cfg2) (call:bI):bI:=fun n f args h Φ =>
 match EY n f args h c.c.kh with
 | some p => .ret p
 | none=>match UJ f args Φ c.c.cl with
 | some r => .ret (r,[])
 | none =>
 if zh f c.c.ew=true then Zo c call f args h Φ
 else if zh f c.hf=true then IQ c.c call n f args h Φ
 else if zh (f+10000) c.hf=true then MV c call f args h Φ
 else if zh (f+20000) c.hf=true then stepG c call n f args h Φ
 else if zh (f+30000) c.hf=true then TF c call n f args h Φ
 else if X.nnL args=true then TG c call f args Φ
 else if args.all (fun x=>x.nn||(match x with | .sl _ _ _ _ _=>true | .slv _ _ _ _ _=>true | _=>false))=true then MV c call f args h Φ else IQ c.c call n f args h Φ
def iK (c:Cfg2):Nat->bI
 | 0=>fun _ _ _ _ _=>(.fail [])
 | d+1=>stepS c (iK c d)
theorem MS {P:Program} {J:Rho} {c:Cfg2} (hc:CfgOk P J c.c) (hs:∀s∈c.sm,iF P s) {call:bI} (hcall:dJ P J call) {n:Nat} {f:Nat} {args:List X} {h:Hp} {Φ:Facts} (hk:Facts.ok J Φ) {r:X} {d:dR}
  (hq:(TG c call f args Φ).sel J=some (r,d)):aQ P f=true/\CY P n f (X.denL J args) h (r.den J) (bZ J d):=by
 unfold TG at hq
 split at hq
 ·rename_i r' hl
  cases hq
  obtain⟨h1,h2⟩:=hc.ks _ (IJ hl)
  exact⟨h1,h2 n _⟩
 ·split at hq
  ·rename_i c' r' hl
   obtain⟨_,_,h1,h2⟩:=aS hk hq
   cases h2
   obtain⟨g1,g2⟩:=EX (n:=n) (h:=h) hs hl
   exact⟨g1,g2 h1⟩
  ·split at hq
   ·rename_i ha
    exact uA hc hcall ha hk hq
   ·cases hq
theorem Ej {P:Program} {J:Rho} {c:Cfg2} (hc:CfgOk P J c.c) (hs:∀s∈c.sm,iF P s) {call:bI} (hcall:dJ P J call) {n:Nat} {f:Nat} {args:List X} {h:bg} {Φ:Facts} (hk:Facts.ok J Φ) {r:X} {d:dR}
  (hq:(MV c call f args h Φ).sel J=some (r,d)):aQ P f=true/\CY P n f (X.denL J args) (aV J h) (r.den J) (bZ J d):=by
 unfold MV at hq
 obtain⟨Φ1,ys,hk1,h1,hq⟩:=T.sel_bind _ hk hq
 obtain⟨_,p,_,h2,hq⟩:=T.sel_bind _ hk1 hq
 obtain⟨r',d'⟩:=p
 split at hq
 ·rename_i hd
  simp only at hd
  subst hd
  split at hq
  ·rename_i hp
   cases hq
   obtain⟨g1,g2⟩:=MS (n:=n) (h:=[]) hc hs hcall hk1 h2
   exact⟨g1,aq6 (zD hk h1) (X.plain_den J _ hp) g2⟩
  ·cases hq
 ·cases hq
theorem AP {n:Nat}:∀{l:List Nat},zh n l=true->n∈l
 | [],h=>by cases h
 | k::l,h=>by
  simp only[zh,Bool.or_eq_true]at h
  rcases h with h | h
  ·rw[Nat.eq_of_beq_eq_true h];exact List.mem_cons_self
  ·exact List.mem_cons_of_mem _ (AP h)
theorem VW {J:Rho} {n:IE} {l:RL} (h:l.kd [.s]=true):∃ss:List ByteArray,aC J n l=nP ss/\ss.length=(n.den J).toNat:=by
 refine⟨(List.range (n.den J).toNat).map fun(j:Nat)=>cellS (l.row J j)[0]?,?_,by simp⟩
 unfold aC nP
 rw[List.map_map]
 refine List.map_congr_left fun j _ => ?_
 obtain⟨v,r,e,hr⟩:=RL.kd_av (J:=J) (j:=(j:Int)) h
 have hr:r=[]:=hr
 subst hr
 simp only[Function.comp,e,List.getElem?_cons_zero,cellS]
theorem bk5 {P:Program} {J:Rho} {f n:Nat} {h:Hp} {ys:List X} {b:BE} (hf:Hl P f) (hq:eqX ys=some b) (hb:b.den J=true):CY P n f (X.denL J ys) h (.sc (.bool true)) []:=by
 unfold eqX at hq
 split at hq
 ·split at hq
  ·rename_i hc
   cases hq
   simp only[Bool.and_eq_true]at hc
   obtain⟨h1,h2,h3,h4,h5⟩:=hc
   have h1:=Nat.eq_of_beq_eq_true h1
   have h2:=Nat.eq_of_beq_eq_true h2
   have h3:=IE.beq_eq _ _ h3
   have h4:=RL.beq_eq h4
   subst h1 h2 h3 h4
   obtain⟨ss,e1,e2⟩:=VW (J:=J) (n := ‹IE›) h5
   rw[bz,dY]at hb
   simp only[IE.den,Bool.not_eq_true']at hb
   have hb:=of_decide_eq_false hb
   simp only[X.denL,X.den,e1]
   exact hf.2 ss _ _ n h (by omega)
  ·cases hq
 ·cases hq
theorem Zn {P:Program} {J:Rho} {c:Cfg2} (hc:CfgOk P J c.c) (hs:∀s∈c.sm,iF P s) {call:bI} (hcall:dJ P J call) {n:Nat} {f:Nat} (hf:Hl P f) {args:List X} {h:bg} {Φ:Facts} (hk:Facts.ok J Φ) {r:X} {d:dR}
  (hq:(Zo c call f args h Φ).sel J=some (r,d)):aQ P f=true/\CY P n f (X.denL J args) (aV J h) (r.den J) (bZ J d):=by
 unfold Zo at hq
 obtain⟨Φ1,ys,hk1,h1,hq⟩:=T.sel_bind _ hk hq
 split at hq
 ·rename_i b hb
  obtain⟨_,_,h2,h3⟩:=aS hk1 hq
  cases h3
  exact⟨hf.1,aq6 (zD hk h1) rfl (bk5 (n:=n) (h:=[]) hf hb h2)⟩
 ·exact Ej hc hs hcall hk1 hq
theorem OE {P:Program} {J:Rho} {c:Cfg2} (hc:CfgOk P J c.c) {call:bI} (hcall:dJ P J call) {n:Nat} {f:Nat} {args:List X} {Φ:Facts} (hk:Facts.ok J Φ) {p:X×dR}
  (hq:(U0 c call n f args Φ).sel J=some p):aQ P f=true/\CY P n f (X.denL J args) (aV J []) (p.1.den J) (bZ J p.2):=by
 unfold U0 at hq
 split at hq
 ·rename_i hl
  cases hq
  exact uK hc.kh hl
 ·exact zC hc hcall hk hq
theorem Zm {P:Program} {J:Rho} {c:Cfg2} (hc:CfgOk P J c.c) {call:bI} (hcall:dJ P J call) {n:Nat} {f:Nat} {args:List X} {h:bg} {Φ:Facts} (hk:Facts.ok J Φ) {r:X} {d:dR}
  (hq:(stepG c call n f args h Φ).sel J=some (r,d)):aQ P f=true/\CY P n f (X.denL J args) (aV J h) (r.den J) (bZ J d):=by
 unfold stepG at hq
 obtain⟨Φ1,ys,hk1,h1,hq⟩:=T.sel_bind _ hk hq
 obtain⟨_,p,_,h2,hq⟩:=T.sel_bind _ hk1 hq
 split at hq
 ·rename_i hp
  rw[Bool.and_eq_true]at hp
  cases hq
  obtain⟨g1,g2⟩:=OE hc hcall hk1 h2
  exact⟨g1,VE (zD hk h1) (X.own_den J n _ hp.1) (Ij J hp.2) g2⟩
 ·cases hq
theorem MR {P:Program} {J:Rho} {c:Cfg2} (hc:CfgOk P J c.c) {call:bI} (hcall:dJ P J call) {n:Nat} {f:Nat} {args:List X} {h:bg} {Φ:Facts} (hk:Facts.ok J Φ) {r:X} {d:dR}
  (hq:(TF c call n f args h Φ).sel J=some (r,d)):aQ P f=true/\CY P n f (X.denL J args) (aV J h) (r.den J) (bZ J d):=by
 unfold TF at hq
 obtain⟨Φ1,ys,hk1,h1,hq⟩:=T.sel_bind _ hk hq
 obtain⟨Φ2,p,hk2,h2,hq⟩:=T.sel_bind _ hk1 hq
 split at hq
 ·rename_i hp
  rw[Bool.and_eq_true]at hp
  obtain⟨_,y,_,h3,hq⟩:=T.sel_bind _ hk2 hq
  cases hq
  obtain⟨g1,g2⟩:=OE hc hcall hk1 h2
  have hd:=Ij J hp.2
  refine⟨g1,b61 (fun q hq=>(hd q hq).1) ?_ (VE (zD hk h1) (X.own_den J n _ hp.1) hd g2)⟩
  have:=aZ1 hk2 h3
  rw[kC]at this
  exact this
 ·cases hq
theorem dP {P:Program} {J:Rho} {c:Cfg2} (hc:CfgOk P J c.c) (hs:∀s∈c.sm,iF P s):∀d,dJ P J (iK c d)
 | 0=>fun n f args h Φ r d _ hq=>by cases hq
 | k+1=>fun n f args h Φ r d hk hq=>by
  have hcall:=dP hc hs k
  simp only[iK]at hq
  unfold stepS at hq
  split at hq
  ·rename_i hl
   cases hq
   exact uK hc.kh hl
  split at hq
  ·rename_i hl
   cases hq
   exact Oq hk hc.cl hl
  split at hq
  ·rename_i hw
   exact Zn hc hs hcall (hc.ew _ (AP hw)) hk hq
  split at hq
  ·exact zC hc hcall hk hq
  ·split at hq
   ·exact Ej hc hs hcall hk hq
   split at hq
   ·exact Zm hc hcall hk hq
   split at hq
   ·exact MR hc hcall hk hq
   split at hq
   ·exact MS hc hs hcall hk hq
   ·split at hq
    ·exact Ej hc hs hcall hk hq
    ·exact zC hc hcall hk hq
def aU (c : Cfg2) (f : Nat) (args : List X) (Φ : Facts) : T X := if X.nnL args = true then (BQ c.c (iK c 12) f args Φ).map (·.1) else .fail ["args"]
def b43 (c:Cfg2) (f:Nat) (args:List X):T X:=aU c f args []
theorem dM {P:Program} {J:Rho} {c:Cfg2} (hc:CfgOk P J c.c) (hs:∀s∈c.sm,iF P s) {f:Nat} {args:List X} {Φ:Facts} {r:X} (hk:Facts.ok J Φ) (h:(aU c f args Φ).sel J=some r):aQ P f=true/\∀n h,CY P n f (X.denL J args) h (r.den J) []:=by
 unfold aU at h
 split at h
 ·rename_i ha
  obtain⟨p,h1,rfl⟩:=T.sel_map _ h
  obtain⟨r,d⟩:=p
  have hd:d=[]:=by
   unfold BQ at h1
   split at h1
   ·obtain⟨_,z,_,_,h4⟩:=T.sel_bind _ hk h1
    split at h4
    ·cases h4;rfl
    ·cases h4
   ·cases h1
  subst hd
  exact⟨(uA (n:=0) (h:=[]) hc (dP hc hs 12) ha hk h1).1,fun n hp=>(uA hc (dP hc hs 12) ha hk h1).2⟩
 ·cases h
theorem Vs {P:Program} {J:Rho} {c:Cfg2} (hc:CfgOk P J c.c) (hs:∀s∈c.sm,iF P s) {f:Nat} {args:List X} {r:X} (h:(b43 c f args).sel J=some r):aQ P f=true/\∀n h,CY P n f (X.denL J args) h (r.den J) [] :=
 dM hc hs (Facts.ok_nil J) h
theorem ci0 {P:Program} {c:Cfg2} (hc:∀J,CfgOk P J c.c) (hs:∀s∈c.sm,iF P s) {f:Nat} {pat:List X} {r:X} (h:b43 c f pat = .ret r):iF P ⟨f,pat,r,.lit true⟩ :=
 ⟨(Vs (J:=⟨fun _=>0,fun _=>false,fun _=>⟨#[]⟩,fun _=>0,fun _ _ _=>0,fun _ _ _=>false,fun _ _ _=>⟨#[]⟩,UB⟩) (hc _) hs (by rw[h];rfl)).1,fun J n hp _=>(Vs (hc J) hs (by rw[h];rfl)).2 n hp⟩
def pK (c:Cfg2) (f:Nat) (args:List X) (inn:bg) (Φ:Facts):T (X×dR):=IQ c.c (iK c 12) 1 f args inn Φ
theorem sV {P:Program} {J:Rho} {c:Cfg2} (hc:CfgOk P J c.c) (hs:∀s∈c.sm,iF P s) {f:Nat} {args:List X} {inn:bg} {Φ:Facts} {r:X} {d:dR} (hk:Facts.ok J Φ) (h:(pK c f args inn Φ).sel J=some (r,d)):iG P J ⟨f,args,inn,r,d⟩ :=
 zC hc (dP hc hs 12) hk h
def RY (c:Cfg2) (f:Nat) (args:List X) (inn:bg) (Φ:Facts):T (X×dR):=TF c (iK c 12) 1 f args inn Φ
theorem aL1 {P:Program} {J:Rho} {c:Cfg2} (hc:CfgOk P J c.c) (hs:∀s∈c.sm,iF P s) {f:Nat} {args:List X} {inn:bg} {Φ:Facts} {r:X} {d:dR} (hk:Facts.ok J Φ) (h:(RY c f args inn Φ).sel J=some (r,d)):iG P J ⟨f,args,inn,r,d⟩ :=
 MR hc (dP hc hs 12) hk h
def UW (inn:bg):dR:=inn.map fun q=>(q.1,some q.2)
def Wl (inn:bg):Bool:=inn.all fun q=>match aT (tZ (UW inn) inn) q.1,aT inn q.1 with
 | some x,some y=>X.beqL x y
 | _,_=>false
theorem aL0 {P:Program} {J:Rho} {c:Cfg2} (hc:CfgOk P J c.c) (hs:∀s∈c.sm,iF P s) {f:Nat} {args:List X} {inn:bg} {Φ:Facts} {r:X} (hk:Facts.ok J Φ) (h:(RY c f args inn Φ).sel J=some (r,[])) (hi:Wl inn=true):iG P J ⟨f,args,inn,r,UW inn⟩:=by
 obtain⟨h1,h2⟩:=aL1 hc hs hk h
 have hm:∀m,m∈(bZ J (UW inn)).map (·.1)->∃q∈inn,q.1=m:=fun m hm=>by
  simp only[bZ,UW,List.map_map,List.mem_map]at hm
  obtain⟨q,hq,rfl⟩:=hm
  exact⟨q,hq,rfl⟩
 refine⟨h1,b62 h2 (fun m => ?_) (fun m hq => ?_)⟩
 ·by_cases hq:m∈(bZ J (UW inn)).map (·.1)
  ·obtain⟨q,hv,rfl⟩:=hm m hq
   have:=List.all_eq_true.1 hi q hv
   split at this
   ·rename_i x y e1 e2
    rw[<-kC,aG,aG,e1,e2,X.beqL_eq _ _ this]
   ·cases this
  ·exact aO _ _ m hq
 ·obtain⟨q,hv,rfl⟩:=hm m hq
  have:=List.all_eq_true.1 hi q hv
  split at this
  ·rename_i x y e1 e2
   rw[aG,e2];rfl
  ·cases this
end Go.Proofs.Xw
namespace Go.Proofs.Xw
open Go Go.Proofs.Aw
def OQ (P:Program) (p:TypeId->Option (List Kd)):Nat->List Field->Option (List Kd)
 | _,[]=>some []
 | off,f::fs=>if f.offset=off then
   (p f.type).bind fun l=>if l.length=P.cellsOf f.type then(OQ P p (off+P.cellsOf f.type) fs).map fun r=>l++r else none
  else none
def NG:Nat->List Kd->List Kd
 | 0,_=>[]
 | n+1,l=>NG n l++l
theorem BO (l:List Kd):∀n,(NG n l).length=n*l.length
 | 0=>by simp[NG]
 | n+1=>by simp only[NG,List.length_append,BO l n,Nat.succ_mul]
def qi (P:Program):Nat->TypeId->Option (List Kd)
 | 0,_=>none
 | d+1,t=>(match P.underlying t with
  | some .bool=>some [.b]
  | some (.int k)=>some [.i k]
  | some .string=>some [.s]
  | some (.struct fs)=>OQ P (qi P d) 0 fs.toList
  | some (.array n e)=>(qi P d e).bind fun l=>if l.length=P.cellsOf e then some (NG n l)else none
  | _=>none:Option (List Kd)).bind fun l=>if l.length=P.cellsOf t then some l else none
def kOk:Kd->Value->Prop
 | .i k,v=>∃n,v = .int k n/\(Lit.int k n).wf=true
 | .b,v=>∃b,v = .bool b
 | .s,v=>∃s,v = .string s/\s.size<=maxLen
def KS:List Kd->List Value->Prop
 | [],vs=>vs=[]
 | k::ks,vs=>∃v r,vs=v::r/\kOk k v/\KS ks r
theorem KS.append:∀{l m:List Kd} {c d:List Value},KS l c->KS m d->KS (l++m) (c++d)
 | [],m,c,d,h,h'=>by simp only[KS]at h;subst h;exact h'
 | k::l,m,c,d,⟨v,r,e,hv,hr⟩,h'=>by
  subst e
  exact⟨v,r++d,rfl,hv,KS.append hr h'⟩
theorem KS.length:∀{l:List Kd} {c:List Value},KS l c->c.length=l.length
 | [],c,h=>by simp only[KS]at h;subst h;rfl
 | k::l,c,⟨v,r,e,_,hr⟩=>by subst e;simp[KS.length hr]
theorem KS.get:∀{l:List Kd} {c:List Value},KS l c->∀{i:Nat} {k:Kd},l[i]? = some k->∃v,c[i]? = some v/\kOk k v
 | [],_,_,i,k,h=>by simp at h
 | k'::l,c,⟨v,r,e,hv,hr⟩,i,k,h=>by
  subst e
  cases i with
  | zero=>simp at h;subst h;exact⟨v,rfl,hv⟩
  | succ i=>simpa using KS.get hr (by simpa using h)
section
variable {H:Type} {enc:TypeId×Value->H} {P:Program}
theorem xq {α:Type} (l:List α) (off a b:Nat):(l.drop off).take (a+b)=(l.drop off).take a++(l.drop (off+a)).take b:=by
 rw[List.take_add,List.drop_drop]
def SA (_enc:TypeId×Value->H) (_P:Program) (r:World->Nat->(Nat->Bool)->Bool->TypeId->List Value->Option (DataW H×List MemPlace)) (t:TypeId) (ks:List Kd):Prop :=
 ∀w base sp held cs x,r w base sp held t cs=some x->x.2=[]/\KS ks cs/\∀w' base' sp' held',r w' base' sp' held' t cs=some x
theorem Cf {r:World->Nat->(Nat->Bool)->Bool->TypeId->List Value->Option (DataW H×List MemPlace)} {p:TypeId->Option (List Kd)} (hp:∀t ks,p t=some ks->SA enc P r t ks) {w:World} {base:Nat} {sp:Nat->Bool} {held:Bool} {cs:List Value} :
  ∀(fs:List Field) (off:Nat) (ks:List Kd) (xs:List (DataW H×List MemPlace)),OQ P p off fs=some ks->fs.mapM (fun f=>r w base sp held f.type ((cs.drop f.offset).take (P.cellsOf f.type)))=some xs ->
  xs.flatMap (·.2)=[]/\KS ks ((cs.drop off).take ks.length)/\∀w' base' sp' held',fs.mapM (fun f=>r w' base' sp' held' f.type ((cs.drop f.offset).take (P.cellsOf f.type)))=some xs
 | [],off,ks,xs,h,hm=>by
  simp only[OQ,Option.some.injEq]at h
  subst h
  simp at hm
  subst hm
  exact⟨rfl,by simp[KS],fun _ _ _ _=>rfl⟩
 | f::fs,off,ks,xs,h,hm=>by
  simp only[OQ]at h
  split at h
  ·rename_i hoff
   subst hoff
   obtain⟨l,hl,h⟩:=Option.bind_eq_some_iff.1 h
   split at h
   ·rename_i hlen
    obtain⟨ks',hk,rfl⟩:=Option.map_eq_some_iff.1 h
    simp only[List.mapM_cons,bind,Option.bind_eq_some_iff,pure,Option.some.injEq]at hm
    obtain⟨y,hy,ys,hys,rfl⟩:=hm
    obtain⟨a1,a2,a3⟩:=hp f.type l hl w base sp held _ y hy
    obtain⟨b1,b2,b3⟩:=Cf hp fs _ ks' ys hk hys
    refine⟨by simp[List.flatMap_cons,a1,b1],?_,fun w' base' sp' held' => ?_⟩
    ·rw[List.length_append,xq,hlen]
     exact KS.append a2 b2
    ·simp only[List.mapM_cons,bind,a3 w' base' sp' held',b3 w' base' sp' held',Option.bind_some,pure]
   ·cases h
  ·cases h
theorem IC {α β:Type} (f:α->Option β) (l:List α) (a:α) (r:List β):(l++[a]).mapM f=some r<->∃xs y,l.mapM f=some xs/\f a=some y/\r=xs++[y]:=by
 rw[List.mapM_append]
 simp only[bind,Option.bind_eq_some_iff,List.mapM_cons,List.mapM_nil,pure,Option.some.injEq]
 constructor
 ·rintro⟨xs,hx,ys,⟨y,hy,zs,rfl,rfl⟩,rfl⟩;exact⟨xs,y,hx,hy,rfl⟩
 ·rintro⟨xs,y,hx,hy,rfl⟩;exact⟨xs,hx,_,⟨y,hy,_,rfl,rfl⟩,rfl⟩
theorem FK {r:World->Nat->(Nat->Bool)->Bool->TypeId->List Value->Option (DataW H×List MemPlace)} {e:TypeId} {l:List Kd} (hp:SA enc P r e l) (hl:l.length=P.cellsOf e) {w:World} {base:Nat} {sp:Nat->Bool} {held:Bool} {cs:List Value} :
  ∀(n:Nat) (xs:List (DataW H×List MemPlace)),(List.range n).mapM (fun i=>r w base sp held e ((cs.drop (i*P.cellsOf e)).take (P.cellsOf e)))=some xs ->
  xs.flatMap (·.2)=[]/\KS (NG n l) (cs.take (n*l.length))/\∀w' base' sp' held',(List.range n).mapM (fun i=>r w' base' sp' held' e ((cs.drop (i*P.cellsOf e)).take (P.cellsOf e)))=some xs
 | 0,xs,hm=>by
  simp at hm
  subst hm
  exact⟨rfl,by simp[KS,NG],fun _ _ _ _=>rfl⟩
 | n+1,xs,hm=>by
  rw[List.range_succ,IC]at hm
  obtain⟨ys,y,hys,hy,rfl⟩:=hm
  obtain⟨b1,b2,b3⟩:=FK hp hl n ys hys
  obtain⟨a1,a2,a3⟩:=hp w base sp held _ y hy
  refine⟨by simp[List.flatMap_append,a1,b1],?_,fun w' base' sp' held' => ?_⟩
  ·simp only[NG,Nat.succ_mul]
   rw[List.take_add,hl]
   rw[hl]at b2
   exact KS.append b2 a2
  ·rw[List.range_succ,IC]
   exact⟨ys,y,b3 w' base' sp' held',a3 w' base' sp' held',rfl⟩
theorem qW:∀(d n:Nat) (t:TypeId) (ks:List Kd),qi P d t=some ks->SA enc P (fun w base sp held=>DataW.trod enc P w base sp held n) t ks
 | 0,_,_,_,h=>by simp[qi]at h
 | d+1,0,t,ks,h=>by intro w base sp held cs x hx;simp[DataW.trod]at hx
 | d+1,n+1,t,ks,h=>by
  intro w base sp held cs x hx
  simp only[qi]at h
  obtain⟨l,hl,h⟩:=Option.bind_eq_some_iff.1 h
  have hks:l=ks/\ks.length=P.cellsOf t:=by
   split at h
   ·rename_i he;cases h;exact⟨rfl,he⟩
   ·cases h
  obtain⟨rfl,hlen⟩:=hks
  clear h
  have goal:x.2=[]/\KS l cs/\∀w' base' sp' held',DataW.trod enc P w' base' sp' held' (n+1) t cs=some x:=by
   simp only[DataW.trod_step]at hx ⊢
   unfold DataW.trodStep at hx ⊢
   cases hu:P.underlying t with
   | none=>rw[hu]at hl;cases hl
   | some ds =>
    rw[hu]at hl hx
    cases ds<;>simp only[reduceCtorEq]at hl
    case bool =>
     cases hl
     match cs,hx with
     | [.bool b],hx=>cases hx;exact⟨rfl,⟨_,_,rfl,⟨b,rfl⟩,rfl⟩,fun _ _ _ _=>rfl⟩
    case int k =>
     cases hl
     match cs,hx with
     | [.int k' i],hx =>
      simp only at hx
      split at hx
      ·rename_i hc
       cases hx
       obtain⟨rfl,hw⟩:=hc
       exact⟨rfl,⟨_,_,rfl,⟨i,rfl,hw⟩,rfl⟩,fun _ _ _ _=>by simp[hw]⟩
      ·cases hx
    case string =>
     cases hl
     match cs,hx with
     | [.string s],hx =>
      simp only at hx
      split at hx
      ·rename_i hc
       cases hx
       exact⟨rfl,⟨_,_,rfl,⟨s,rfl,hc⟩,rfl⟩,fun _ _ _ _=>by simp[hc]⟩
      ·cases hx
    case struct fs =>
     simp only at hx
     split at hx
     ·rename_i hc
      obtain⟨xs,hxs,rfl⟩:=Option.map_eq_some_iff.1 hx
      obtain⟨a1,a2,a3⟩:=Cf (enc:=enc) (P:=P) (r:=fun w base sp held=>DataW.trod enc P w base sp held n) (p:=qi P d) (fun t ks h=>qW d n t ks h) fs.toList 0 l xs hl hxs
      refine⟨a1,?_,fun w' base' sp' held' => ?_⟩
      ·rw[List.drop_zero,List.take_of_length_le (by omega)]at a2;exact a2
      ·simp only[hc,if_true];rw[a3 w' base' sp' held'];rfl
     ·cases hx
    case array m e =>
     obtain⟨l',hl',hl⟩:=Option.bind_eq_some_iff.1 hl
     split at hl
     ·rename_i hz
      cases hl
      simp only at hx
      split at hx
      ·rename_i hc
       obtain⟨xs,hxs,rfl⟩:=Option.map_eq_some_iff.1 hx
       obtain⟨a1,a2,a3⟩:=FK (enc:=enc) (P:=P) (r:=fun w base sp held=>DataW.trod enc P w base sp held n) (qW d n e l' hl') hz m xs hxs
       refine⟨a1,?_,fun w' base' sp' held' => ?_⟩
       ·rw[BO]at hlen
        rw[List.take_of_length_le (by omega)]at a2;exact a2
       ·simp only[hc,if_true];rw[a3 w' base' sp' held'];rfl
      ·cases hx
     ·cases hl
  exact goal
end
end Go.Proofs.Xw
namespace Go.Proofs.Xw
open Go Go.Proofs.Aw Go.ChangeShapes Go.WideShapes
inductive Sh where
 | flat (ks:List Kd) (agg:Bool)
 | sl (ks:List Kd)
def shT (P:Program) (t:TypeId):Option Sh :=
 match P.underlying t with
 | some .bool=>some (.flat [.b] false)
 | some (.int k)=>some (.flat [.i k] false)
 | some .string=>some (.flat [.s] false)
 | some (.struct _)=>(qi P 8 t).map fun ks => .flat ks true
 | some (.array _ _)=>(qi P 8 t).map fun ks => .flat ks true
 | some (.slice e)=>(qi P 8 e).bind fun ks=>if 0<ks.length/\ks.length=P.cellsOf e then some (.sl ks)else none
 | _=>none
def canon:Nat->List Kd->List X
 | _,[]=>[]
 | p,.i k::ks => .sc (.i k (.var p))::canon (p+1) ks
 | p,.b::ks => .sc (.b (.var p))::canon (p+1) ks
 | p,.s::ks => .sc (.s (.var p))::canon (p+1) ks
def plain:List Sh->List Value->List Value
 | .flat _ _::r,v::vs=>v.cells.toList++plain r vs
 | .sl _::r,_::vs=>plain r vs
 | _,_=>[]
def XN:Option Value->Int
 | some (.int _ n)=>n
 | _=>0
def CE:Option Value->Bool
 | some (.bool b)=>b
 | _=>false
def JJ:Option Value->ByteArray
 | some (.string s)=>s
 | _=>⟨#[]⟩
def rowCell (W:World) (vs:List Value) (zs:List Nat) (l k r:Nat):Option Value :=
 match vs[l]?,zs[l]? with
 | some (.slice (some a) _ _),some z=>W.cell? ((a.add (r*z)).add k)
 | _,_=>none
def CU:Option Value->Nat
 | some (.slice _ n _)=>n
 | _=>0
def mkR (W:World) (cells vs:List Value) (zs:List Nat):Rho where
 i p:=XN cells[p]?
 b p:=CE cells[p]?
 s p:=JJ cells[p]?
 len j:=CU vs[j]?
 ci l k r:=XN (rowCell W vs zs l k r)
 cb l k r:=CE (rowCell W vs zs l k r)
 cs l k r:=JJ (rowCell W vs zs l k r)
 ct:=UB
def Fits (W:World):Sh->Value->Prop
 | .flat ks true,v=>∃cs,v = .agg cs/\KS ks cs.toList
 | .flat ks false,v=>∃k,ks=[k]/\kOk k v
 | .sl ks,v=>0<ks.length/\∃A len cap,v = .slice A len cap/\len<=cap/\(0<len->∃a,A=some a/\a.block<W.heap.size/\∀r,r<len->∃cs,KS ks cs/\∀k,k<ks.length->W.cell? ((a.add (r*ks.length)).add k)=cs[k]?)
theorem xZ {C:Ctx} {W:World} {cells vs:List Value} {zs:List Nat}:∀(ks:List Kd) (p:Nat) (cs:List Value),KS ks cs->(∀i,i<ks.length->cells[p+i]? = cs[i]?)->ConcL C (X.denL (mkR W cells vs zs) (canon p ks)) cs
 | [],p,cs,h,_=>by simp only[KS]at h;subst h;simp only[canon,X.denL,ConcL]
 | k::ks,p,cs,⟨v,r,e,hv,hr⟩,hc=>by
  subst e
  have h0:cells[p]? = some v:=by have:=hc 0 (by simp);simpa using this
  have ih:=xZ (C:=C) (W:=W) (vs:=vs) (zs:=zs) ks (p+1) r hr (fun i hi=>by
   have:=hc (i+1) (by simp;omega)
   rw[show p+1+i=p+(i+1)from by omega,this];rfl)
  cases k with
  | i kk =>
   obtain⟨n,rfl,_⟩:=hv
   simp only[canon,X.denL,X.den,Sc.den,IE.den,ConcL]
   exact⟨_,_,rfl,by simp only[Conc,mkR,h0,XN],ih⟩
  | b =>
   obtain⟨n,rfl⟩:=hv
   simp only[canon,X.denL,X.den,Sc.den,BE.den,ConcL]
   exact⟨_,_,rfl,by simp only[Conc,mkR,h0,CE],ih⟩
  | s =>
   obtain⟨n,rfl,_⟩:=hv
   simp only[canon,X.denL,X.den,Sc.den,TE.den,ConcL]
   exact⟨_,_,rfl,by simp only[Conc,mkR,h0,JJ],ih⟩
theorem kE (J:Rho) (l:Nat):∀(ks:List Kd) (k j:Nat),(aW J l k ks j).length=ks.length
 | [],_,_=>rfl
 | .i _::ks,k,j=>by simp only[aW,List.length_cons,kE J l ks (k+1) j]
 | .b::ks,k,j=>by simp only[aW,List.length_cons,kE J l ks (k+1) j]
 | .s::ks,k,j=>by simp only[aW,List.length_cons,kE J l ks (k+1) j]
end Go.Proofs.Xw
namespace Go.Proofs.Xw
open Go Go.Proofs.Aw Go.ChangeShapes Go.WideShapes
section
variable {H:Type} {enc:TypeId×Value->H} {P:Program}
theorem uJ {α β:Type} {f:α->Option β}:∀{l:List α} {r:List β},l.mapM f=some r->∀x∈l,∃y,f x=some y
 | [],_,_,x,hx=>by cases hx
 | a::l,r,h,x,hx=>by
  simp only[List.mapM_cons,bind,Option.bind_eq_some_iff,pure]at h
  obtain⟨y,hy,ys,hys,_⟩:=h
  rcases List.mem_cons.1 hx with rfl | hx
  ·exact⟨y,hy⟩
  ·exact uJ hys x hx
theorem VM {W W':World} (h:∀b,b<W.heap.size->W'.heap[b]? = W.heap[b]?) {p:MemPlace} (hp:p.block<W.heap.size):W.sameAt W' p:=by
 cases p with
 | cell b off=>simp only[World.sameAt,World.cell?,h b hp]
 | map b=>exact h b hp
theorem Gj {W W':World} (h:∀b,b<W.heap.size->W'.heap[b]? = W.heap[b]?) {base:Nat} {a:Addr} {n:Nat} {cs:List Value} (hn:0<n) (hc:W.cells? base a n=some cs):W'.cells? base a n=some cs:=by
 have hb:=World.cells?_block hc hn
 refine World.cells?_carry hc fun p hp => ?_
 obtain⟨i,_,rfl⟩:=MemPlace.mem_row.1 hp
 exact VM h hb
theorem ax8 {n:Nat} {t e:TypeId} {ks:List Kd} (hu:P.underlying t=some (.slice e)) (hk:qi P 8 e=some ks) (hpos:0<ks.length) (hz:ks.length=P.cellsOf e) {W:World} {A:Option Addr} {len cap:Nat} {x:DataW H×List MemPlace}
  (h:DataW.trod enc P W 0 (fun _=>true) true (n+1) t [.slice A len cap]=some x) :
  Fits W (.sl ks) (.slice A len cap)/\∀(W':World) (sp:Nat->Bool),(∀b,b<W.heap.size->W'.heap[b]? = W.heap[b]?)->(∀q∈x.2,sp q.block=true)->DataW.trod enc P W' 0 sp true (n+1) t [.slice A len cap]=some x:=by
 simp only[DataW.trod_step]at h ⊢
 unfold DataW.trodStep at h ⊢
 rw[hu]at h
 simp only[hu]at h ⊢
 cases A with
 | none =>
  have hlc:len=0/\cap=0:=by
   cases len<;>cases cap<;>simp_all
  obtain⟨rfl,rfl⟩:=hlc
  refine⟨⟨hpos,none,0,0,rfl,Nat.le_refl _,fun hh=>absurd hh (by omega)⟩,fun W' sp _ _ => ?_⟩
  simpa using h
 | some a =>
  simp only at h ⊢
  split at h
  ·rename_i hc
   obtain⟨elems,he,h⟩:=Option.bind_eq_some_iff.1 h
   obtain⟨rest,hr,rfl⟩:=Option.map_eq_some_iff.1 h
   simp only[if_true]at hr
   have hflat:∀i y,(W.cells? 0 (a.add (i*P.cellsOf e)) (P.cellsOf e)).bind (DataW.trod enc P W 0 (fun _=>true) true n e)=some y ->
     ∃cs,W.cells? 0 (a.add (i*P.cellsOf e)) (P.cellsOf e)=some cs/\KS ks cs/\∀w' b' s' h',DataW.trod enc P w' b' s' h' n e cs=some y:=fun i y hy=>by
    obtain⟨cs,h1,h2⟩:=Option.bind_eq_some_iff.1 hy
    obtain⟨_,g2,g3⟩:=qW (enc:=enc) 8 n e ks hk W 0 (fun _=>true) true cs y h2
    exact⟨cs,h1,g2,g3⟩
   refine⟨⟨hpos,some a,len,cap,rfl,hc.2.1,fun hl=>⟨a,rfl,?_,fun r hr' => ?_⟩⟩,fun W' sp hW' hsp => ?_⟩
   ·obtain⟨y,hy⟩:=uJ he 0 (by simpa using hl)
    obtain⟨cs,h1,_⟩:=hflat 0 y hy
    have:=World.cells?_block h1 (by omega)
    simpa [block_add]using this
   ·obtain⟨y,hy⟩:=uJ he r (by simpa using hr')
    obtain⟨cs,h1,h2,_⟩:=hflat r y hy
    obtain⟨_,_,h4⟩:=World.cells?_some h1
    exact⟨cs,h2,fun k hk'=>by rw[hz];exact h4 k (by omega)⟩
   ·rw[if_pos hc]
    have carry:∀i y,(W.cells? 0 (a.add (i*P.cellsOf e)) (P.cellsOf e)).bind (DataW.trod enc P W 0 (fun _=>true) true n e)=some y ->
      (W'.cells? 0 (a.add (i*P.cellsOf e)) (P.cellsOf e)).bind (DataW.trod enc P W' 0 sp true n e)=some y:=fun i y hy=>by
     obtain⟨cs,h1,_,h3⟩:=hflat i y hy
     rw[Gj hW' (by omega) h1]
     exact h3 _ _ _ _
    have e1:=mapM_carry (g:=fun i=>(W'.cells? 0 (a.add (i*P.cellsOf e)) (P.cellsOf e)).bind (DataW.trod enc P W' 0 sp true n e)) he fun i y _ _ hy=>carry i y hy
    rw[e1]
    simp only[Option.bind_some]
    have e2:(if sp a.block=true then(List.range (cap-len)).mapM fun j=>(W'.cells? 0 (a.add ((len+j)*P.cellsOf e)) (P.cellsOf e)).bind (DataW.trod enc P W' 0 sp true n e)else some [])=some rest:=by
     have e3:=mapM_carry (g:=fun j=>(W'.cells? 0 (a.add ((len+j)*P.cellsOf e)) (P.cellsOf e)).bind (DataW.trod enc P W' 0 sp true n e)) hr fun j y _ _ hy=>carry (len+j) y hy
     split
     ·exact e3
     ·rename_i hsa
      have hrl:rest.length=cap-len:=by
       have:∀(l:List Nat) (f:Nat->Option (DataW H×List MemPlace)) (r:List (DataW H×List MemPlace)),l.mapM f=some r->r.length=l.length:=fun l=>by
        induction l with
        | nil=>intro f r hh;simp at hh;subst hh;rfl
        | cons x l ih =>
         intro f r hh
         simp only[List.mapM_cons,bind,Option.bind_eq_some_iff,pure,Option.some.injEq]at hh
         obtain⟨y,_,ys,hys,rfl⟩:=hh
         simp[ih f ys hys]
       have:=this _ _ _ hr
       simpa using this
      by_cases h0:cap-len=0
      ·rw[h0]at hrl
       rw[List.length_eq_zero_iff.1 hrl]
      ·exfalso
       apply hsa
       refine hsp (.cell a.block (a.off+0)) (List.mem_append_left _ (MemPlace.mem_row.2 ⟨0,?_,rfl⟩))
       exact Nat.mul_pos (by omega) (by omega)
    rw[e2];rfl
  ·cases h
theorem zJ {t:TypeId} {sh:Sh} (hs:shT P t=some sh) {W:World} {base:Nat} {v:Value} (hval:Value.okWide P W .any base t v) {d:DataW H} {p:List MemPlace} (h:DataW.Trod enc P W 0 (fun _=>true) true t v d p) :
  Fits W sh v/\∀(W':World) (sp:Nat->Bool),(∀b,b<W.heap.size->W'.heap[b]? = W.heap[b]?)->(∀q∈p,sp q.block=true)->DataW.Trod enc P W' 0 sp true t v d p:=by
 obtain⟨n,hf⟩:=h
 have flatCase:∀ks,qi P 8 t=some ks->KS ks v.cells.toList/\∀(W':World) (sp:Nat->Bool),DataW.Trod enc P W' 0 sp true t v d p:=fun ks hk=>by
  obtain⟨_,g2,g3⟩:=qW (enc:=enc) 8 n t ks hk W 0 (fun _=>true) true _ _ hf
  exact⟨g2,fun W' sp=>⟨n,g3 W' 0 sp true⟩⟩
 cases hu:P.underlying t with
 | none=>unfold shT at hs;rw[hu]at hs;cases hs
 | some ds =>
  unfold shT at hs
  rw[hu]at hs
  cases ds<;>simp only[reduceCtorEq,Option.some.injEq]at hs
  case bool =>
   subst hs
   obtain⟨b,rfl⟩:=okWide_bool hu hval
   refine⟨⟨.b,rfl,b,rfl⟩,fun W' sp _ _=>⟨n,?_⟩⟩
   cases n with
   | zero=>simp[DataW.trod]at hf
   | succ n=>simp only[DataW.trod_step,DataW.trodStep,hu,Value.cells]at hf ⊢;exact hf
  case int k =>
   subst hs
   obtain⟨i,rfl⟩:=okWide_int hu hval
   cases n with
   | zero=>simp[DataW.trod]at hf
   | succ n =>
    simp only[DataW.trod_step,DataW.trodStep,hu,Value.cells]at hf
    refine⟨⟨.i k,rfl,i,rfl,?_⟩,fun W' sp _ _=>⟨n+1,?_⟩⟩
    ·by_cases hw:(Lit.int k i).wf=true
     ·exact hw
     ·simp[hw]at hf
    ·simp only[DataW.trod_step,DataW.trodStep,hu,Value.cells];exact hf
  case string =>
   subst hs
   obtain⟨s,rfl⟩:=okWide_string hu hval
   cases n with
   | zero=>simp[DataW.trod]at hf
   | succ n =>
    simp only[DataW.trod_step,DataW.trodStep,hu,Value.cells]at hf
    refine⟨⟨.s,rfl,s,rfl,?_⟩,fun W' sp _ _=>⟨n+1,?_⟩⟩
    ·by_cases hw:s.size<=maxLen
     ·exact hw
     ·simp[hw]at hf
    ·simp only[DataW.trod_step,DataW.trodStep,hu,Value.cells];exact hf
  case struct fs =>
   obtain⟨ks,hk,rfl⟩:=Option.map_eq_some_iff.1 hs
   obtain⟨g1,g2⟩:=flatCase ks hk
   have hv:∃cs,v = .agg cs:=by
    simp only[Value.okWide,hu]at hval
    obtain⟨cs,h1,_⟩:=hval
    exact⟨cs,h1⟩
   obtain⟨cs,rfl⟩:=hv
   exact⟨⟨cs,rfl,g1⟩,fun W' sp _ _=>g2 W' sp⟩
  case array m e =>
   obtain⟨ks,hk,rfl⟩:=Option.map_eq_some_iff.1 hs
   obtain⟨g1,g2⟩:=flatCase ks hk
   have hv:∃cs,v = .agg cs:=by
    simp only[Value.okWide,hu]at hval
    obtain⟨cs,h1,_⟩:=hval
    exact⟨cs,h1⟩
   obtain⟨cs,rfl⟩:=hv
   exact⟨⟨cs,rfl,g1⟩,fun W' sp _ _=>g2 W' sp⟩
  case slice e =>
   obtain⟨ks,hk,hs⟩:=Option.bind_eq_some_iff.1 hs
   split at hs
   ·rename_i hc
    cases hs
    obtain⟨A,len,cap,rfl⟩:=okWide_slice hu hval
    cases n with
    | zero=>simp[DataW.trod]at hf
    | succ n =>
     obtain⟨g1,g2⟩:=ax8 hu hk hc.1 hc.2 hf
     exact⟨g1,fun W' sp h1 h2=>⟨n+1,g2 W' sp h1 h2⟩⟩
   ·cases hs
theorem ML {w:World} {base:Nat} {sp:Nat->Bool} {held:Bool}:∀{ts:List TypeId} {vs:List Value} {ds:List (DataW H)} {p:List MemPlace},DataW.TrodAll enc P w base sp held ts vs ds p->ds.length=ts.length
 | [],vs,ds,p,h=>by obtain⟨_,rfl,_⟩:=trodAll_nil h;rfl
 | t::ts,vs,ds,p,h=>by
  obtain⟨v,vs',d,ds',p1,p2,_,rfl,_,_,h2⟩:=trodAll_cons h
  simp[ML h2]
end
end Go.Proofs.Xw
namespace Go.Proofs.Xw
open Go Go.Proofs.Aw
def T.outs:T (XE×XS)->T (XE×XS)
 | .ret (.normal,_) => .fail []
 | .ret (.exit j,s) => .ret (.exit j,s)
 | .ret (.ret,s) => .ret (.ret,s)
 | .br c x y => .br c x.outs y.outs
 | .need c x => .need c x.outs
 | .fail w => .fail w
theorem T.outs_sel {J:Rho} {e:XE} {s:XS} (he:e ≠ .normal):∀{t:T (XE×XS)},t.sel J=some (e,s)->t.outs.sel J=some (e,s)
 | .ret (.normal,_),h=>by cases h;exact absurd rfl he
 | .ret (.exit j,s),h=>h
 | .ret (.ret,s),h=>h
 | .br c x y,h=>by
  simp only[T.sel]at h
  simp only[T.outs,T.sel]
  split
  ·rename_i hc;rw[if_pos hc]at h;exact T.outs_sel he h
  ·rename_i hc;rw[if_neg hc]at h;exact T.outs_sel he h
 | .need c x,h=>by
  simp only[T.sel]at h
  simp only[T.outs,T.sel]
  split
  ·rename_i hc;rw[if_pos hc]at h;exact T.outs_sel he h
  ·rename_i hc;rw[if_neg hc]at h;cases h
 | .fail _,h=>by cases h
def T.belX (n:Nat):T (XE×XS)->Bool
 | .ret (_,s)=>s.bel n
 | .br c x y=>c.bel n&&(x.belX n&&y.belX n)
 | .need c x=>c.bel n&&x.belX n
 | .fail _=>true
theorem T.belX_sel {n:Nat} {J J':Rho} (h:Agree n J J') {e:XE} {s:XS}:∀{t:T (XE×XS)},t.belX n=true->t.sel J=some (e,s)->t.sel J'=some (e,s)/\s.den J=s.den J'
 | .ret (_,s'),hb,hs=>by cases hs;exact⟨rfl,XS.bel_den h _ hb⟩
 | .br c x y,hb,hs=>by
  simp only[T.belX,Bool.and_eq_true]at hb
  simp only[T.sel]at hs ⊢
  rw[<-BE.bel_den h c hb.1]
  split
  ·rename_i hc;rw[if_pos hc]at hs;exact T.belX_sel h hb.2.1 hs
  ·rename_i hc;rw[if_neg hc]at hs;exact T.belX_sel h hb.2.2 hs
 | .need c x,hb,hs=>by
  simp only[T.belX,Bool.and_eq_true]at hb
  simp only[T.sel]at hs ⊢
  rw[<-BE.bel_den h c hb.1]
  split
  ·rename_i hc;rw[if_pos hc]at hs;exact T.belX_sel h hb.2 hs
  ·rename_i hc;rw[if_neg hc]at hs;cases hs
 | .fail _,_,hs=>by cases hs
def T.nrm (p:XS->Bool):T (XE×XS)->Bool
 | .ret (.normal,s)=>p s
 | .ret _=>true
 | .br _ x y=>x.nrm p&&y.nrm p
 | .need _ x=>x.nrm p
 | .fail _=>true
theorem T.nrm_sel {p:XS->Bool} {J:Rho} {s:XS}:∀{t:T (XE×XS)},t.nrm p=true->t.sel J=some (.normal,s)->p s=true
 | .ret (.normal,_),h,hs=>by cases hs;exact h
 | .ret (.exit j,_),_,hs=>by cases hs
 | .ret (.ret,_),_,hs=>by cases hs
 | .br c x y,h,hs=>by
  simp only[T.nrm,Bool.and_eq_true]at h
  simp only[T.sel]at hs
  split at hs
  ·exact T.nrm_sel h.1 hs
  ·exact T.nrm_sel h.2 hs
 | .need c x,h,hs=>by
  simp only[T.sel]at hs
  split at hs
  ·exact T.nrm_sel (t:=x) h hs
  ·cases hs
 | .fail _,_,hs=>by cases hs
def yC (ks:List Nat) (p:XE×XS):XE×XS:=(p.1,⟨sqK p.2.t ks [] [],p.2.h,p.2.nx⟩)
theorem Ai (ks:List Nat) (J:Rho) (p:XE×XS):LeS ((yC ks p).2.den J) (p.2.den J):=by
 refine⟨fun i => ?_,fun m cs hcs=>⟨cs,hcs,LeC.refl cs⟩,Nat.le_refl _⟩
 simp only[XS.den,yC,dW,ul]
 split
 ·exact LeA.refl _
 ·simp only[bJ,X.den];exact LeA.top _
theorem Xy {P:Program} {J:Rho} {N:Nat} {body:Code} {L:LoopX} {ti:Nat->Option TI} {call:bI} {ms:List Nat} {lps:List LoopX} {fuel:Nat} (hm:P.follows .mixedOrders=true) (hti:TIs.ok P ti)
  {Φ:Facts} {tr:T (XE×XS)} (hrun:(dG ti call ms L.k0 lps fuel body Φ L.S).map (yC (L.S.t.map (·.1)))=tr) (hfit:fD N body=true) {β:Bind} {nm:List (Nm×Nm)} (hback:tr.nrm (okS L.k0 L.n β nm L.S)=true) (hout:L.out=tr.outs)
  (B:Nat) (hbel:tr.outs.belX B=true) (R:Nat->Rho->Prop) (h0:∃k,R k (L.init.ap J))
  (hR:∀k J',R k J'->dJ P J' call/\LpsOk P J' N lps body/\Facts.ok J' Φ /\
   ((∃e s,e≠XE.normal/\tr.sel J'=some (e,s)/\Agree B J' J)\/∃s,tr.sel J'=some (.normal,s)/\∃k',k'<k/\R k' (β.ap J'))):LoopOk P J N body L:=by
 intro E hE hb
 obtain⟨k,hk⟩:=h0
 refine VF (fun k σ=>∃J',R k J'/\σ=L.S.den J') k ⟨_,zB _ _,_,hk,rfl⟩ (fun k σ hσ => ?_)
 obtain⟨J',hR',rfl⟩:=hσ
 obtain⟨hcall,hl,hΦ,ho⟩:=hR k J' hR'
 have run:∀(e:XE) (s:XS),tr.sel J'=some (e,s)->AW P E body (fun e' s'=>e'=e.to/\wZ E s' (s.den J')) (L.S.den J'):=fun e s hs=>by
  rw[<-hrun]at hs
  obtain⟨q,hq,he⟩:=T.sel_map _ hs
  have g:=dV (E:=E) hm hti hcall hb body Φ L.S q.1 q.2 hΦ (by rw[hE];exact hfit) (by rw[hE];exact hl) hq
  have h1:=congrArg Prod.fst he
  have h2:=congrArg Prod.snd he
  simp only at h1 h2
  subst h1 h2
  exact bY (fun e' s' hh=>⟨hh.1,jr hh.2 (Ai _ J' q)⟩) g
 rcases ho with⟨e,s,he,hs,hag⟩ | ⟨s,hs,k',hlt,hk'⟩
 ·have g:=run e s hs
  refine bY (fun e' s' hq => ?_) g
  obtain⟨rfl,hi⟩:=hq
  obtain⟨h1,h2⟩:=T.belX_sel hag hbel (T.outs_sel he hs)
  have fin:∃e' s'',L.out.sel J=some (e',s'')/\e.to=e'.to/\wZ E s' (s''.den J):=⟨e,s,by rw[hout];exact h1,rfl,by rw[<-h2];exact hi⟩
  cases e with
  | normal=>exact absurd rfl he
  | exit j=>exact fin
  | ret=>exact fin
 ·have g:=run .normal s hs
  refine bY (fun e' s' hq => ?_) g
  obtain⟨rfl,hi⟩:=hq
  exact⟨k',_,hlt,o6 hi (jq hb (T.nrm_sel hback hs) J'),β.ap J',hk',rfl⟩
noncomputable def Bind.it (β:Bind) (J:Rho):Nat->Rho
 | 0=>J
 | j+1=>β.ap (β.it J j)
theorem Bind.it_agree {n:Nat} {β:Bind} (h:β.ge n=true) (J:Rho):∀j,Agree n J (β.it J j)
 | 0=>Agree.refl _ _
 | j+1=>(Bind.it_agree h J j).trans (Bind.agree h _)
def kw {α β:Type}:List (Nat×α)->List (Nat×β)->Bool
 | [],[]=>true
 | (a,_)::r,(b,_)::s=>Nat.beq a b&&kw r s
 | _,_=>false
theorem dI {α β:Type} {k:Nat}:∀{l:List (Nat×α)} {m:List (Nat×β)},kw l m=true->(aB k l=none<->aB k m=none)
 | [],[],_=>⟨fun _=>rfl,fun _=>rfl⟩
 | [],_::_,h=>by cases h
 | _::_,[],h=>by simp[kw]at h
 | (a,v)::r,(b,w)::s,h=>by
  simp only[kw,Bool.and_eq_true]at h
  have ha:=Nat.eq_of_beq_eq_true h.1
  subst ha
  simp only[aB]
  split
  ·simp
  ·exact dI h.2
def Bind.same (β γ:Bind):Bool:=kw β.i γ.i&&(kw β.b γ.b&&(kw β.s γ.s&&kw β.r γ.r))
def rX {α:Type} (f:α->Bool):List (Nat×α)->Bool
 | []=>true
 | (_,v)::r=>f v&&rX f r
theorem dh {α:Type} {f:α->Bool} {k:Nat} {v:α}:∀{l:List (Nat×α)},rX f l=true->aB k l=some v->f v=true
 | [],_,h=>by cases h
 | (a,w)::r,hb,h=>by
  simp only[rX,Bool.and_eq_true]at hb
  simp only[aB]at h
  split at h
  ·cases h;exact hb.1
  ·exact dh hb.2 h
def Bind.bel (n:Nat) (β:Bind):Bool:=rX (IE.bel n) β.i&&(rX (BE.bel n) β.b&&(rX (TE.bel n) β.s&&rX (fun p:IE×RL=>p.1.bel n&&p.2.bel n) β.r))
theorem Bind.ap_congr {n m:Nat} {β:Bind} (hb:β.bel n=true) {J J':Rho} (h:Agree n J J') (_hm:Agree m J J'\/m=n):Agree (Nat.min n m) (β.ap J) (β.ap J'):=by
 simp only[Bind.bel,Bool.and_eq_true]at hb
 obtain⟨h1,h2,h3,h4⟩:=hb
 have hn:=h.le (Nat.min_le_left n m)
 refine⟨fun k hk => ?_,fun k hk => ?_,fun k hk => ?_,fun k hk => ?_,fun k hk => ?_,fun k hk => ?_,fun k hk => ?_,fun k hk=>hn.ct k hk⟩
 ·simp only[Bind.ap]
  cases he:aB k β.i with
  | none=>exact hn.i k hk
  | some e=>exact IE.bel_den h e (dh h1 he)
 ·simp only[Bind.ap]
  cases he:aB k β.b with
  | none=>exact hn.b k hk
  | some e=>exact BE.bel_den h e (dh h2 he)
 ·simp only[Bind.ap]
  cases he:aB k β.s with
  | none=>exact hn.s k hk
  | some e=>exact TE.bel_den h e (dh h3 he)
 ·simp only[Bind.ap]
  cases he:aB k β.r with
  | none=>exact hn.len k hk
  | some e =>
   have:=dh h4 he
   simp only[Bool.and_eq_true]at this
   simp only[IE.bel_den h e.1 this.1]
 all_goals
  funext a b
  simp only[Bind.ap]
  cases he:aB k β.r with
  | none=>first | exact congrFun (congrFun (hn.ci k hk) a) b | exact congrFun (congrFun (hn.cb k hk) a) b | exact congrFun (congrFun (hn.cs k hk) a) b
  | some e =>
   have:=dh h4 he
   simp only[Bool.and_eq_true]at this
   simp only[RL.bel_row h e.2 _ this.2]
theorem Bind.init_it {n:Nat} {ι β:Bind} (hi:ι.bel n=true) (hb:β.ge n=true) (hs:ι.same β=true) (J:Rho) (j:Nat):ι.ap (β.it (ι.ap J) j)=ι.ap J:=by
 simp only[Bind.same,Bool.and_eq_true]at hs
 obtain⟨s1,s2,s3,s4⟩:=hs
 simp only[Bind.bel,Bool.and_eq_true]at hi
 obtain⟨h1,h2,h3,h4⟩:=hi
 have stay:∀j,(∀k,aB k ι.i=none->(β.it (ι.ap J) j).i k=J.i k)/\(∀k,aB k ι.b=none->(β.it (ι.ap J) j).b k=J.b k)/\(∀k,aB k ι.s=none->(β.it (ι.ap J) j).s k=J.s k) /\
   (∀k,aB k ι.r=none->(β.it (ι.ap J) j).len k=J.len k/\(β.it (ι.ap J) j).ci k=J.ci k/\(β.it (ι.ap J) j).cb k=J.cb k/\(β.it (ι.ap J) j).cs k=J.cs k):=by
  intro j
  induction j with
  | zero =>
   refine⟨fun k hk => ?_,fun k hk => ?_,fun k hk => ?_,fun k hk=>⟨?_,?_,?_,?_⟩⟩
   ·simp only[Bind.it,Bind.ap,hk]
   ·simp only[Bind.it,Bind.ap,hk]
   ·simp only[Bind.it,Bind.ap,hk]
   ·simp only[Bind.it,Bind.ap,hk]
   ·funext a b;simp only[Bind.it,Bind.ap,hk]
   ·funext a b;simp only[Bind.it,Bind.ap,hk]
   ·funext a b;simp only[Bind.it,Bind.ap,hk]
  | succ j ih =>
   obtain⟨i1,i2,i3,i4⟩:=ih
   refine⟨fun k hk => ?_,fun k hk => ?_,fun k hk => ?_,fun k hk=>⟨?_,?_,?_,?_⟩⟩
   ·have:=(dI s1).1 hk
    simp only[Bind.it];rw[show(β.ap (β.it (ι.ap J) j)).i k=(β.it (ι.ap J) j).i k from by simp only[Bind.ap,this]];exact i1 k hk
   ·have:=(dI s2).1 hk
    simp only[Bind.it];rw[show(β.ap (β.it (ι.ap J) j)).b k=(β.it (ι.ap J) j).b k from by simp only[Bind.ap,this]];exact i2 k hk
   ·have:=(dI s3).1 hk
    simp only[Bind.it];rw[show(β.ap (β.it (ι.ap J) j)).s k=(β.it (ι.ap J) j).s k from by simp only[Bind.ap,this]];exact i3 k hk
   ·have:=(dI s4).1 hk
    simp only[Bind.it];rw[show(β.ap (β.it (ι.ap J) j)).len k=(β.it (ι.ap J) j).len k from by simp only[Bind.ap,this]];exact(i4 k hk).1
   ·have:=(dI s4).1 hk
    simp only[Bind.it];rw[show(β.ap (β.it (ι.ap J) j)).ci k=(β.it (ι.ap J) j).ci k from by funext a b;simp only[Bind.ap,this]];exact(i4 k hk).2.1
   ·have:=(dI s4).1 hk
    simp only[Bind.it];rw[show(β.ap (β.it (ι.ap J) j)).cb k=(β.it (ι.ap J) j).cb k from by funext a b;simp only[Bind.ap,this]];exact(i4 k hk).2.2.1
   ·have:=(dI s4).1 hk
    simp only[Bind.it];rw[show(β.ap (β.it (ι.ap J) j)).cs k=(β.it (ι.ap J) j).cs k from by funext a b;simp only[Bind.ap,this]];exact(i4 k hk).2.2.2
 have hge:ι.ge n=true:=by
  simp only[Bind.ge,Bool.and_eq_true]at hb ⊢
  have ge:∀{α γ:Type} {l:List (Nat×α)} {m:List (Nat×γ)},kw l m=true->kK n m=true->kK n l=true:=by
   intro α γ l
   induction l with
   | nil=>intro m _ _;rfl
   | cons p l ih =>
    intro m h1 h2
    match m,h1,h2 with
    | q::m,h1,h2 =>
     simp only[kw,Bool.and_eq_true]at h1
     simp only[kK,Bool.and_eq_true]at h2 ⊢
     rw[Nat.eq_of_beq_eq_true h1.1]
     exact⟨h2.1,ih h1.2 h2.2⟩
  exact⟨ge s1 hb.1,ge s2 hb.2.1,ge s3 hb.2.2.1,ge s4 hb.2.2.2⟩
 have hag:Agree n (β.it (ι.ap J) j) J:=((Bind.agree hge J).trans (Bind.it_agree hb _ j)).symm
 obtain⟨i1,i2,i3,i4⟩:=stay j
 have ext:∀{a b:Rho},a.i=b.i->a.b=b.b->a.s=b.s->a.len=b.len->a.ci=b.ci->a.cb=b.cb->a.cs=b.cs->a.ct=b.ct->a=b:=fun {a b} q1 q2 q3 q4 q5 q6 q7 q8=>by
  cases a;cases b;simp only at q1 q2 q3 q4 q5 q6 q7 q8;subst q1 q2 q3 q4 q5 q6 q7 q8;rfl
 have itc:∀j,(β.it (ι.ap J) j).ct=J.ct:=fun j=>by
  induction j with
  | zero=>rfl
  | succ j ih=>exact ih
 refine ext ?_ ?_ ?_ ?_ ?_ ?_ ?_ (itc j)
 ·funext k;simp only[Bind.ap]
  cases he:aB k ι.i with
  | none=>exact i1 k he
  | some e=>exact IE.bel_den hag e (dh h1 he)
 ·funext k;simp only[Bind.ap]
  cases he:aB k ι.b with
  | none=>exact i2 k he
  | some e=>exact BE.bel_den hag e (dh h2 he)
 ·funext k;simp only[Bind.ap]
  cases he:aB k ι.s with
  | none=>exact i3 k he
  | some e=>exact TE.bel_den hag e (dh h3 he)
 ·funext k;simp only[Bind.ap]
  cases he:aB k ι.r with
  | none=>exact(i4 k he).1
  | some e =>
   have:=dh h4 he
   simp only[Bool.and_eq_true]at this
   exact congrArg Int.toNat (IE.bel_den hag e.1 this.1)
 ·funext k a b;simp only[Bind.ap]
  cases he:aB k ι.r with
  | none=>exact congrFun (congrFun (i4 k he).2.1 a) b
  | some e =>
   have:=dh h4 he
   simp only[Bool.and_eq_true]at this
   exact congrArg (fun r:List AV=>ai r[a]?) (RL.bel_row hag e.2 b this.2)
 ·funext k a b;simp only[Bind.ap]
  cases he:aB k ι.r with
  | none=>exact congrFun (congrFun (i4 k he).2.2.1 a) b
  | some e =>
   have:=dh h4 he
   simp only[Bool.and_eq_true]at this
   exact congrArg (fun r:List AV=>fU r[a]?) (RL.bel_row hag e.2 b this.2)
 ·funext k a b;simp only[Bind.ap]
  cases he:aB k ι.r with
  | none=>exact congrFun (congrFun (i4 k he).2.2.2 a) b
  | some e =>
   have:=dh h4 he
   simp only[Bool.and_eq_true]at this
   exact congrArg (fun r:List AV=>cellS r[a]?) (RL.bel_row hag e.2 b this.2)
theorem Xz {P:Program} {J:Rho} {N:Nat} {body:Code} {L:LoopX} {ti:Nat->Option TI} {call:bI} {ms:List Nat} {lps:List LoopX} {fuel:Nat} (hm:P.follows .mixedOrders=true) (hti:TIs.ok P ti)
  {Φ:Facts} {tr:T (XE×XS)} (hrun:(dG ti call ms L.k0 lps fuel body Φ L.S).map (yC (L.S.t.map (·.1)))=tr) (hfit:fD N body=true) {β:Bind} {nm:List (Nm×Nm)} (hback:tr.nrm (okS L.k0 L.n β nm L.S)=true) (hout:L.out=tr.outs)
  (B:Nat) (hbel:tr.outs.belX B=true) (hi:L.init.bel L.n=true) (hb:β.ge L.n=true) (hs:L.init.same β=true) (n:Nat)
  (hR:∀j,j<=n->dJ P (β.it (L.init.ap J) j) call/\LpsOk P (β.it (L.init.ap J) j) N lps body/\Facts.ok (β.it (L.init.ap J) j) Φ /\
   (if j<n then ∃s,tr.sel (β.it (L.init.ap J) j)=some (.normal,s)else ∃e s,e≠XE.normal/\tr.sel (β.it (L.init.ap J) j)=some (e,s))):LoopOk P (β.it (L.init.ap J) n) N body L:=by
 refine Xy hm hti hrun hfit hback hout B hbel (fun k J'=>∃j,j+k=n/\J'=β.it (L.init.ap J) j) ⟨n,0,by omega,Bind.init_it hi hb hs J n⟩ ?_
 rintro k J' ⟨j,hj,rfl⟩
 obtain⟨h1,h2,h3,h4⟩:=hR j (by omega)
 refine⟨h1,h2,h3,?_⟩
 by_cases hjn:j<n
 ·rw[if_pos hjn]at h4
  obtain⟨s,h4⟩:=h4
  exact .inr ⟨s,h4,k-1,by omega,j+1,by omega,rfl⟩
 ·rw[if_neg hjn]at h4
  obtain⟨e,s,he,h4⟩:=h4
  obtain rfl:j=n:=by omega
  exact .inl ⟨e,s,he,h4,Agree.refl _ _⟩
theorem LoopOk.agree {P:Program} {J J':Rho} {N:Nat} {body:Code} {L:LoopX} {B:Nat} (hS:L.S.bel B=true) (hi:L.init.bel B=true) (ho:L.out.belX B=true) (h:Agree B J J') (hL:LoopOk P J N body L):LoopOk P J' N body L:=by
 intro E hE hb
 have h1:=hL E hE hb
 have h2:Agree B (L.init.ap J) (L.init.ap J'):=by
  have:=Bind.ap_congr (m:=B) hi h (.inr rfl)
  rwa[show Nat.min B B=B from Nat.min_self B]at this
 rw[XS.bel_den h2 L.S hS]at h1
 refine bY (fun e s hq => ?_) h1
 obtain⟨e',s',q1,q2,q3⟩:=hq
 obtain⟨g1,g2⟩:=T.belX_sel h ho q1
 exact⟨e',s',g1,q2,by rw[<-g2];exact q3⟩
end Go.Proofs.Xw
namespace Go.Proofs.Xw
open Go Go.Proofs.Aw
theorem zy {β:Bind} {I:Nat} {e:IE} (hI:aB I β.i=some (.op .add .i64 (.var I) (.lit 1))) {J:Rho} (h0:J.i I=0):∀j:Nat,j<9223372036854775808->(β.it J j).i I=j
 | 0,_=>by simpa [Bind.it]using h0
 | j+1,hj=>by
  have ih:=zy (e:=e) hI h0 j (by omega)
  simp only[Bind.it]
  rw[show(β.ap (β.it J j)).i I=IE.den (β.it J j) (.op .add .i64 (.var I) (.lit 1))from by simp only[Bind.ap,hI]]
  simp only[IE.den,IOp.den,ih]
  rw[aP _ (by omega) (by omega)]
  omega
theorem Facts.bel_ok {n:Nat} {J J':Rho} (h:Agree n J J') {Φ:Facts} (hb:Φ.all (fun p=>p.1.bel n)=true) (hk:Facts.ok J Φ):Facts.ok J' Φ:=fun p hp=>by
 rw[<-BE.bel_den h p.1 (List.all_eq_true.1 hb p hp)]
 exact hk p hp
theorem Ol {P:Program} {J:Rho} {N:Nat} {body:Code} {L:LoopX} {ti:Nat->Option TI} {call:bI} {ms:List Nat} {lps:List LoopX} {fuel:Nat} (hm:P.follows .mixedOrders=true) (hti:TIs.ok P ti)
  {Φ:Facts} {tr:T (XE×XS)} (hrun:(dG ti call ms L.k0 lps fuel body Φ L.S).map (yC (L.S.t.map (·.1)))=tr) (hfit:fD N body=true) {β:Bind} {nm:List (Nm×Nm)} (hback:tr.nrm (okS L.k0 L.n β nm L.S)=true) (hout:L.out=tr.outs)
  (B:Nat) (hbel:tr.outs.belX B=true) (hi:L.init.bel L.n=true) (hb:β.ge L.n=true) (hs:L.init.same β=true)
  {I:Nat} (hI:aB I β.i=some (.op .add .i64 (.var I) (.lit 1))) (hI0:aB I L.init.i=some (.lit 0)) {Φ0:Facts} (hΦ:Φ=(.lt (.var I) (.lit 0),false)::Φ0) (hΦb:Φ0.all (fun p=>p.1.bel L.n)=true) (hΦ0:Facts.ok J Φ0) (hge:L.init.ge L.n=true)
  (hcall:∀J',dJ P J' call) (hlps:∀J',LpsOk P J' N lps body) (n:Nat) (hn:n<9223372036854775808)
  (hgo:∀j,j<n->(β.it (L.init.ap J) j).i I=j->Agree L.n J (β.it (L.init.ap J) j)->∃s,tr.sel (β.it (L.init.ap J) j)=some (.normal,s))
  (hend:(β.it (L.init.ap J) n).i I=n->Agree L.n J (β.it (L.init.ap J) n)->∃e s,e≠XE.normal/\tr.sel (β.it (L.init.ap J) n)=some (e,s)):LoopOk P (β.it (L.init.ap J) n) N body L:=by
 have cnt:=fun j=>zy (e := .lit 0) hI (J:=L.init.ap J) (by simp only[Bind.ap,hI0];rfl) j
 have ag:=fun j=>(Bind.agree hge J).trans (Bind.it_agree hb (L.init.ap J) j)
 refine Xz hm hti hrun hfit hback hout B hbel hi hb hs n fun j hj=>⟨hcall _,hlps _,?_,?_⟩
 ·rw[hΦ]
  refine Facts.ok_cons ?_ (Facts.bel_ok (ag j) hΦb hΦ0)
  simp only[BE.den,IE.den,cnt j (by omega)]
  exact decide_eq_false (by omega)
 ·by_cases hjn:j<n
  ·rw[if_pos hjn]
   exact hgo j hjn (cnt j (by omega)) (ag j)
  ·obtain rfl:j=n:=by omega
   rw[if_neg hjn]
   exact hend (cnt j (by omega)) (ag j)
theorem Cc {P:Program} {J:Rho} {N:Nat} {body:Code} {L:LoopX} {ti:Nat->Option TI} {call:bI} {ms:List Nat} {lps:List LoopX} {fuel:Nat} (hm:P.follows .mixedOrders=true) (hti:TIs.ok P ti)
  {Φ:Facts} {tr:T (XE×XS)} (hrun:(dG ti call ms L.k0 lps fuel body Φ L.S).map (yC (L.S.t.map (·.1)))=tr) (hfit:fD N body=true) {β:Bind} {nm:List (Nm×Nm)} (hback:tr.nrm (okS L.k0 L.n β nm L.S)=true) (hout:L.out=tr.outs)
  (B:Nat) (hbel:tr.outs.belX B=true) (hi:L.init.bel L.n=true) (hb:β.ge L.n=true) (hs:L.init.same β=true)
  {I:Nat} {e:IE} {s1 s2:XS} {e2:XE} (htr:tr = .br (.lt (.var I) e) (.ret (.normal,s1)) (.ret (e2,s2))) (he2:e2 ≠ .normal) (hI:aB I β.i=some (.op .add .i64 (.var I) (.lit 1))) (hI0:aB I L.init.i=some (.lit 0)) (he:e.bel L.n=true)
  {Φ0:Facts} (hΦ:Φ=(.lt (.var I) (.lit 0),false)::Φ0) (hΦb:Φ0.all (fun p=>p.1.bel L.n)=true) (hΦ0:Facts.ok J Φ0) (hge:L.init.ge L.n=true)
  (hcall:∀J',dJ P J' call) (hlps:∀J',LpsOk P J' N lps body) (n:Nat) (hn:n<9223372036854775808) (hen:e.den J=n):LoopOk P (β.it (L.init.ap J) n) N body L:=by
 refine Ol hm hti hrun hfit hback hout B hbel hi hb hs hI hI0 hΦ hΦb hΦ0 hge hcall hlps n hn (fun j hj hc ha=>⟨s1,?_⟩) (fun hc ha=>⟨e2,s2,he2,?_⟩)
 ·rw[htr]
  simp only[T.sel,BE.den,<-IE.bel_den ha e he,hen,IE.den,hc]
  rw[if_pos (decide_eq_true (by omega))]
 ·rw[htr]
  simp only[T.sel,BE.den,<-IE.bel_den ha e he,hen,IE.den,hc]
  rw[if_neg (by simp)]
noncomputable def fin (ι β:Bind) (l:Nat) (J:Rho):Rho:=β.it (ι.ap J) (J.len l)
def rO (lps:List LoopX) (ks:List Nat):Nat->List Code->Bool
 | _,[]=>true
 | k,c::r=>(zh k ks||(nN (bW c) lps).isEmpty)&&rO lps ks (k+1) r
theorem jP {P:Program} {J:Rho} {N:Nat} {lps:List LoopX} {c:Code} (ks:List Nat) (ho:rO lps ks 0 (dw c)=true)
  (h:∀k∈ks,∀L∈nN (bW ((dw c)[k]?.getD .skip)) lps,LoopOk P J N ((dw c)[k]?.getD .skip) L):LpsOk P J N lps c:=by
 unfold LpsOk
 generalize hl:dw c=l at h ho ⊢
 have key:∀(r:List Code) (k0:Nat),rO lps ks k0 r=true->(∀j,r[j]? = l[k0+j]?)->∀c'∈r,∀L∈nN (bW c') lps,LoopOk P J N c' L:=by
  intro r
  induction r with
  | nil=>intro k0 _ _ c' hc;cases hc
  | cons d r ih =>
   intro k0 ho hj c' hc L hL
   simp only[rO,Bool.and_eq_true,Bool.or_eq_true]at ho
   rcases List.mem_cons.1 hc with rfl | hc
   ·have h0:=hj 0
    simp only[List.getElem?_cons_zero,Nat.add_zero]at h0
    rcases ho.1 with h1 | h1
    ·have:=h k0 (AP h1)
     rw[<-h0]at this
     exact this L hL
    ·rw[List.isEmpty_iff.1 h1]at hL;cases hL
   ·exact ih (k0+1) ho.2 (fun j=>by have:=hj (j+1);rw[List.getElem?_cons_succ]at this;rw[this];congr 1;omega) c' hc L hL
 exact key l 0 ho (fun j=>by rw[Nat.zero_add])
theorem iD {P:Program} {J:Rho} {N:Nat} {c:Code} {L:LoopX} {lps:List LoopX} (h:nN (bW c) lps=[L]) (hL:LoopOk P J N c L):∀K∈nN (bW c) lps,LoopOk P J N c K:=fun K hK=>by
 rw[h]at hK
 rw[List.mem_singleton.1 hK];exact hL
theorem II {P:Program} {J:Rho} {N:Nat} {c:Code} {Ls lps:List LoopX} (h:nN (bW c) lps=Ls) (hL:∀L∈Ls,LoopOk P J N c L):∀K∈nN (bW c) lps,LoopOk P J N c K:=fun K hK=>by
 rw[h]at hK
 exact hL K hK
theorem nV {P:Program} {J:Rho} {f:FuncId} {i:FnI} {fn:Func} {lps:List LoopX} (hi:zV P f i) (hf:P.funcs[f]? = some fn) (h:LpsOk P J fn.ntmps lps (fn.body.getD .skip)):LpsOk P J i.ntmps lps i.body:=by
 obtain⟨fn',g1,g2,_,g4,_⟩:=hi
 rw[hf]at g1
 cases g1
 rw[<-g4]
 rw[g2]at h
 exact h
end Go.Proofs.Xw
namespace Go.Proofs.Xw
open Go Go.Proofs.Aw
def xu:BE->BE
 | .not a=>xu a
 | .and a _=>xu a
 | .or a _=>xu a
 | .ite c _ _=>xu c
 | e=>e
def touch:BE->BE->Bool
 | .lt a b,.lt c d=>a.beq c||(a.beq d||(b.beq c||b.beq d))
 | .lt a b,.eq c d=>a.beq c||(a.beq d||(b.beq c||b.beq d))
 | .eq a b,.lt c d=>a.beq c||(a.beq d||(b.beq c||b.beq d))
 | .eq a b,.eq c d=>a.beq c||(a.beq d||(b.beq c||b.beq d))
 | a,b=>a.beq b
def near (w:Bool) (c:BE):Facts->Facts
 | []=>[]
 | p::Φ=>if(w||touch c p.1)=true then p::near w c Φ else near w c Φ
theorem DI {J:Rho} {w:Bool} {c:BE}:∀{Φ:Facts},Facts.ok J Φ->Facts.ok J (near w c Φ)
 | [],h=>h
 | p::Φ,h=>by
  have h1:=Facts.ok_tail h
  unfold near
  split
  ·exact fun q hq=>by
    rcases List.mem_cons.1 hq with rfl | hq
    ·exact h1.1
    ·exact DI h1.2 q hq
  ·exact DI h1.2
def CO (w:Bool):Nat->Facts->List BE->BE->Bool
 | 0,_,_,_=>false
 | n+1,Φ,hs,e=>match e with
  | .lit b=>b
  | e=>match hs with
   | []=>CO w n (assume (xu e) true Φ) [] (red (near w (xu e) (assume (xu e) true Φ)) e)&&CO w n (assume (xu e) false Φ) [] (red (near w (xu e) (assume (xu e) false Φ)) e)
   | h::hs=>match red (near w h Φ) h with
    | .lit _=>CO w n Φ hs e
    | h=>CO w n (assume h true Φ) hs (red (near w h (assume h true Φ)) e)&&CO w n (assume h false Φ) hs (red (near w h (assume h false Φ)) e)
theorem pO {J:Rho} {w:Bool}:∀(n:Nat) (Φ:Facts) (hs:List BE) (e:BE),CO w n Φ hs e=true->Facts.ok J Φ->e.den J=true
 | 0,_,_,_,h,_=>by cases h
 | n+1,Φ,hs,e,h,hk=>by
  have both:∀(c:BE) (hs':List BE),(CO w n (assume c true Φ) hs' (red (near w c (assume c true Φ)) e)&&CO w n (assume c false Φ) hs' (red (near w c (assume c false Φ)) e))=true->e.den J=true:=fun c hs' h=>by
   rw[Bool.and_eq_true]at h
   cases hc:c.den J with
   | true =>
    have hk':=dC c true Φ hc hk
    rw[<-bu (DI hk') e]
    exact pO n _ hs' _ h.1 hk'
   | false =>
    have hk':=dC c false Φ hc hk
    rw[<-bu (DI hk') e]
    exact pO n _ hs' _ h.2 hk'
  unfold CO at h
  split at h
  ·exact h
  ·split at h
   ·exact both _ _ h
   ·split at h
    ·exact pO n Φ _ _ h hk
    ·exact both _ _ h
theorem mP {w:Bool} {n:Nat} {hs:List BE} {a b:BE} (h:CO w n [] hs (.ite a b (.not b))=true) (J:Rho):a.den J=b.den J:=by
 have:=pO (J:=J) n [] hs _ h (Facts.ok_nil J)
 simp only[BE.den]at this
 cases ha:BE.den J a<;>cases hb:BE.den J b<;>rw[ha,hb]at this<;>simp_all
def sees (Φ:Facts) (p:BE×Bool):Bool:=match red Φ p.1 with
 | .lit b=>b==p.2
 | _=>false
theorem rF {J:Rho} {Φ:Facts} (hk:Facts.ok J Φ) {p:BE×Bool} (h:sees Φ p=true):p.1.den J=p.2:=by
 unfold sees at h
 split at h
 ·rename_i b hb
  rw[<-bu hk,hb]
  exact eq_of_beq h
 ·cases h
end Go.Proofs.Xw
namespace Go.Proofs.Xw
open Go Go.Proofs.Aw
structure Off (ι:Bind) (J J':Rho):Prop where
 i:∀k,aB k ι.i=none->J'.i k=J.i k
 b:∀k,aB k ι.b=none->J'.b k=J.b k
 s:∀k,aB k ι.s=none->J'.s k=J.s k
 r:∀k,aB k ι.r=none->J'.len k=J.len k/\J'.ci k=J.ci k/\J'.cb k=J.cb k/\J'.cs k=J.cs k
 c:J'.ct=J.ct
theorem Off.refl (ι:Bind) (J:Rho):Off ι J J:=⟨fun _ _=>rfl,fun _ _=>rfl,fun _ _=>rfl,fun _ _=>⟨rfl,rfl,rfl,rfl⟩,rfl⟩
theorem Off.trans {ι:Bind} {a b c:Rho} (h:Off ι a b) (k:Off ι b c):Off ι a c :=
  ⟨fun j hj=>(k.i j hj).trans (h.i j hj),fun j hj=>(k.b j hj).trans (h.b j hj),fun j hj=>(k.s j hj).trans (h.s j hj),
   fun j hj=>⟨(k.r j hj).1.trans (h.r j hj).1,(k.r j hj).2.1.trans (h.r j hj).2.1,(k.r j hj).2.2.1.trans (h.r j hj).2.2.1,(k.r j hj).2.2.2.trans (h.r j hj).2.2.2⟩,k.c.trans h.c⟩
theorem Off.of {ι β:Bind} (h:ι.same β=true) (J:Rho):Off ι J (β.ap J):=by
 simp only[Bind.same,Bool.and_eq_true]at h
 obtain⟨s1,s2,s3,s4⟩:=h
 refine⟨fun k hk => ?_,fun k hk => ?_,fun k hk => ?_,fun k hk=>⟨?_,?_,?_,?_⟩,rfl⟩
 ·simp only[Bind.ap,(dI s1).1 hk]
 ·simp only[Bind.ap,(dI s2).1 hk]
 ·simp only[Bind.ap,(dI s3).1 hk]
 ·simp only[Bind.ap,(dI s4).1 hk]
 ·funext a b;simp only[Bind.ap,(dI s4).1 hk]
 ·funext a b;simp only[Bind.ap,(dI s4).1 hk]
 ·funext a b;simp only[Bind.ap,(dI s4).1 hk]
theorem Off.init {n:Nat} {ι:Bind} (hi:ι.bel n=true) {J J':Rho} (h:Off ι J J') (hag:Agree n J' J):ι.ap J'=ι.ap J:=by
 simp only[Bind.bel,Bool.and_eq_true]at hi
 obtain⟨h1,h2,h3,h4⟩:=hi
 obtain⟨i1,i2,i3,i4,i5⟩:=h
 have ext:∀{a b:Rho},a.i=b.i->a.b=b.b->a.s=b.s->a.len=b.len->a.ci=b.ci->a.cb=b.cb->a.cs=b.cs->a.ct=b.ct->a=b:=fun {a b} q1 q2 q3 q4 q5 q6 q7 q8=>by
  cases a;cases b;simp only at q1 q2 q3 q4 q5 q6 q7 q8;subst q1 q2 q3 q4 q5 q6 q7 q8;rfl
 refine ext ?_ ?_ ?_ ?_ ?_ ?_ ?_ i5
 ·funext k;simp only[Bind.ap]
  cases he:aB k ι.i with
  | none=>exact i1 k he
  | some e=>exact IE.bel_den hag e (dh h1 he)
 ·funext k;simp only[Bind.ap]
  cases he:aB k ι.b with
  | none=>exact i2 k he
  | some e=>exact BE.bel_den hag e (dh h2 he)
 ·funext k;simp only[Bind.ap]
  cases he:aB k ι.s with
  | none=>exact i3 k he
  | some e=>exact TE.bel_den hag e (dh h3 he)
 ·funext k;simp only[Bind.ap]
  cases he:aB k ι.r with
  | none=>exact(i4 k he).1
  | some e =>
   have:=dh h4 he
   simp only[Bool.and_eq_true]at this
   exact congrArg Int.toNat (IE.bel_den hag e.1 this.1)
 ·funext k a b;simp only[Bind.ap]
  cases he:aB k ι.r with
  | none=>exact congrFun (congrFun (i4 k he).2.1 a) b
  | some e =>
   have:=dh h4 he
   simp only[Bool.and_eq_true]at this
   exact congrArg (fun r:List AV=>ai r[a]?) (RL.bel_row hag e.2 b this.2)
 ·funext k a b;simp only[Bind.ap]
  cases he:aB k ι.r with
  | none=>exact congrFun (congrFun (i4 k he).2.2.1 a) b
  | some e =>
   have:=dh h4 he
   simp only[Bool.and_eq_true]at this
   exact congrArg (fun r:List AV=>fU r[a]?) (RL.bel_row hag e.2 b this.2)
 ·funext k a b;simp only[Bind.ap]
  cases he:aB k ι.r with
  | none=>exact congrFun (congrFun (i4 k he).2.2.2 a) b
  | some e =>
   have:=dh h4 he
   simp only[Bool.and_eq_true]at this
   exact congrArg (fun r:List AV=>cellS r[a]?) (RL.bel_row hag e.2 b this.2)
def yA (P:Program) (N:Nat) (body:Code) (k0:Nat) (S:XS) (out:T (XE×XS)) (J:Rho):Prop :=
 ∀E:Aw.Env,E.N=N->(∀m,E.c0.kn m->m.1<k0)->AW P E body (fun e σ=>∃e' s,e'≠XE.normal/\out.sel J=some (e',s)/\e=e'.to/\wZ E σ (s.den J)) (S.den J)
def TM (β:Bind) (Φ:Facts) (p:BE×Bool):Bool:=match nT β p.1 with
 | some e=>sees Φ (e,p.2)
 | none=>false
theorem Zu {β:Bind} {J:Rho} {Φ Ψ:Facts} (hk:Facts.ok J Φ) (h:Ψ.all (TM β Φ)=true):Facts.ok (β.ap J) Ψ:=fun p hp=>by
 have h1:=List.all_eq_true.1 h p hp
 unfold TM at h1
 split at h1
 ·rename_i e he
  rw[<-iZ he]
  exact rF hk h1
 ·cases h1
mutual
def mtX:X->X->Bind->Bind
 | .sc (.i _ (.var k)),.sc (.i _ e),β=>⟨(k,e)::β.i,β.b,β.s,β.r⟩
 | .sc (.b (.var k)),.sc (.b e),β=>⟨β.i,(k,e)::β.b,β.s,β.r⟩
 | .sc (.s (.var k)),.sc (.s e),β=>⟨β.i,β.b,(k,e)::β.s,β.r⟩
 | .agg xs,.agg ys,β=>mtL xs ys β
 | .slv _ _ (.var o) (.var l) _,.slv _ _ o' l' _,β=>⟨(o,o')::(l,l')::β.i,β.b,β.s,β.r⟩
 | .slv _ _ (.var o) (.var l) _,.sl _ _ _ l' _,β=>⟨(o,.lit 0)::(l,.lit l')::β.i,β.b,β.s,β.r⟩
 | _,_,β=>β
def mtL:List X->List X->Bind->Bind
 | x::xs,y::ys,β=>mtX x y (mtL xs ys β)
 | _,_,β=>β
end
def mtT (s:ig):ig->Bind->Bind
 | [],β=>β
 | (j,x)::r,β=>mtX x (bJ s j) (mtT s r β)
def ah4 (I:Nat) (β:Bind):Bool:=match aB I β.i with
 | some e=>e.beq (.op .add .i64 (.var I) (.lit 1))
 | none=>false
end Go.Proofs.Xw
namespace Go.Proofs.Xw
open Go Go.Proofs.Aw
structure Lin where
 l:List (IE×Int)
 c:Int
noncomputable def JI (J:Rho):List (IE×Int)->Int
 | []=>0
 | (e,k)::r=>k*e.den J+JI J r
noncomputable def Lin.den (J:Rho) (x:Lin):Int:=JI J x.l+x.c
def aM0 (e:IE) (s:Int):List (IE×Int)->List (IE×Int)
 | []=>[(e,s)]
 | (d,k)::r=>if d.beq e=true then(d,k+s)::r else(d,k)::aM0 e s r
theorem Pv (J:Rho) (e:IE) (s:Int):∀l,JI J (aM0 e s l)=s*e.den J+JI J l
 | []=>rfl
 | (d,k)::r=>by
  unfold aM0
  split
  ·rename_i h
   rw[<-IE.beq_eq _ _ h]
   simp only[JI,Int.add_mul];omega
  ·simp only[JI,Pv J e s r];omega
def xK:IE->Int->Lin->Lin
 | .lit n,s,x=>⟨x.l,x.c+s*n⟩
 | .op .padd _ a b,s,x=>xK a s (xK b s x)
 | .op .psub _ a b,s,x=>xK a s (xK b (-s) x)
 | .op .pmul _ (.lit n) b,s,x=>xK b (s*n) x
 | e,s,x=>⟨aM0 e s x.l,x.c⟩
theorem zo (J:Rho) (e:IE) (s:Int) (x:Lin):(xK e s x).den J=s*e.den J+x.den J:=by
 fun_induction xK e s x with
 | case1 n s x=>simp only[Lin.den,IE.den];omega
 | case2 k a b s x ih1 ih2=>rw[ih2,ih1];simp only[IE.den,IOp.den,Int.mul_add];omega
 | case3 k a b s x ih1 ih2=>rw[ih2,ih1];simp only[IE.den,IOp.den,Int.mul_sub,Int.neg_mul];omega
 | case4 k n b s x ih=>rw[ih];simp only[IE.den,IOp.den,Int.mul_assoc]
 | case5=>simp only[Lin.den,Pv];omega
def aL7:List (IE×Int)->Bool
 | []=>true
 | (_,k)::r=>k==0&&aL7 r
theorem Po (J:Rho):∀l,aL7 l=true->JI J l=0
 | [],_=>rfl
 | (e,k)::r,h=>by
  simp only[aL7,Bool.and_eq_true,beq_iff_eq]at h
  simp only[JI,h.1,Po J r h.2,Int.zero_mul];rfl
def Lin.con (x:Lin):Option Int:=if aL7 x.l=true then some x.c else none
theorem Lin.con_den {J:Rho} {x:Lin} {k:Int} (h:x.con=some k):x.den J=k:=by
 unfold Lin.con at h
 split at h
 ·rename_i hz
  cases h
  simp only[Lin.den,Po J _ hz,Int.zero_add]
 ·cases h
def Ru (a b c d:IE):Option Int:=(xK a 1 (xK b (-1) (xK c (-1) (xK d 1 ⟨[],0⟩)))).con
theorem jv {J:Rho} {a b c d:IE} {k:Int} (h:Ru a b c d=some k):a.den J-b.den J=c.den J-d.den J+k:=by
 have:=Lin.con_den (J:=J) (x:=xK a 1 (xK b (-1) (xK c (-1) (xK d 1 ⟨[],0⟩)))) h
 rw[zo,zo,zo,zo]at this
 simp only[Lin.den,JI]at this
 omega
def aa5 (a b:IE):BE×Bool->Option Bool
 | (.lt c d,true)=>match Ru a b c d with
  | some k=>if decide (k<=0)then some true else none
  | none=>match Ru a b d c with
   | some k=>if decide (-1<=k)then some false else none
   | none=>none
 | (.lt c d,false)=>match Ru a b c d with
  | some k=>if decide (0<=k)then some false else none
  | none=>match Ru a b d c with
   | some k=>if decide (k<0)then some true else none
   | none=>none
 | (.eq c d,true)=>match Ru a b c d with
  | some k=>some (decide (k<0))
  | none=>match Ru a b d c with
   | some k=>some (decide (k<0))
   | none=>none
 | _=>none
theorem aa4 {J:Rho} {a b:IE} {p:BE×Bool} {r:Bool} (hp:p.1.den J=p.2) (h:aa5 a b p=some r):decide (a.den J<b.den J)=r:=by
 unfold aa5 at h
 split at h
 ·rename_i c d
  have hp:=of_decide_eq_true hp
  split at h
  ·rename_i k hk
   have:=jv (J:=J) hk
   split at h
   ·rename_i hc;have hc:=of_decide_eq_true hc;cases h;exact decide_eq_true (by omega)
   ·cases h
  ·split at h
   ·rename_i k hk
    have:=jv (J:=J) hk
    split at h
    ·rename_i hc;have hc:=of_decide_eq_true hc;cases h;exact decide_eq_false (by omega)
    ·cases h
   ·cases h
 ·rename_i c d
  have hp:=of_decide_eq_false hp
  split at h
  ·rename_i k hk
   have:=jv (J:=J) hk
   split at h
   ·rename_i hc;have hc:=of_decide_eq_true hc;cases h;exact decide_eq_false (by omega)
   ·cases h
  ·split at h
   ·rename_i k hk
    have:=jv (J:=J) hk
    split at h
    ·rename_i hc;have hc:=of_decide_eq_true hc;cases h;exact decide_eq_true (by omega)
    ·cases h
   ·cases h
 ·rename_i c d
  simp only[BE.den,beq_iff_eq]at hp
  split at h
  ·rename_i k hk
   have:=jv (J:=J) hk
   cases h
   exact decide_eq_decide.2 ⟨fun h=>by omega,fun h=>by omega⟩
  ·split at h
   ·rename_i k hk
    have:=jv (J:=J) hk
    cases h
    exact decide_eq_decide.2 ⟨fun h=>by omega,fun h=>by omega⟩
   ·cases h
 ·cases h
def aa7 (a b:IE):BE×Bool->Option Bool
 | (.lt c d,true)=>match Ru a b c d with
  | some k=>if decide (k<=0)then some false else none
  | none=>match Ru a b d c with
   | some k=>if decide (0<=k)then some false else none
   | none=>none
 | (.lt c d,false)=>match Ru a b c d with
  | some k=>if decide (0<k)then some false else none
  | none=>match Ru a b d c with
   | some k=>if decide (k<0)then some false else none
   | none=>none
 | (.eq c d,v)=>match Ru a b c d with
  | some k=>if k==0 then some v else if v=true then some false else none
  | none=>match Ru a b d c with
   | some k=>if k==0 then some v else if v=true then some false else none
   | none=>none
 | _=>none
theorem aa6 {J:Rho} {a b:IE} {p:BE×Bool} {r:Bool} (hp:p.1.den J=p.2) (h:aa7 a b p=some r):(a.den J==b.den J)=r:=by
 unfold aa7 at h
 split at h
 ·rename_i c d
  have hp:=of_decide_eq_true hp
  split at h
  ·rename_i k hk
   have:=jv (J:=J) hk
   split at h
   ·rename_i hc;have hc:=of_decide_eq_true hc;cases h;exact beq_eq_false_iff_ne.2 (by omega)
   ·cases h
  ·split at h
   ·rename_i k hk
    have:=jv (J:=J) hk
    split at h
    ·rename_i hc;have hc:=of_decide_eq_true hc;cases h;exact beq_eq_false_iff_ne.2 (by omega)
    ·cases h
   ·cases h
 ·rename_i c d
  have hp:=of_decide_eq_false hp
  split at h
  ·rename_i k hk
   have:=jv (J:=J) hk
   split at h
   ·rename_i hc;have hc:=of_decide_eq_true hc;cases h;exact beq_eq_false_iff_ne.2 (by omega)
   ·cases h
  ·split at h
   ·rename_i k hk
    have:=jv (J:=J) hk
    split at h
    ·rename_i hc;have hc:=of_decide_eq_true hc;cases h;exact beq_eq_false_iff_ne.2 (by omega)
    ·cases h
   ·cases h
 ·rename_i c d v
  simp only[BE.den]at hp
  have fin:∀{k:Int},(a.den J-b.den J=c.den J-d.den J+k\/a.den J-b.den J=d.den J-c.den J+k)->(if(k==0)=true then some v else if v=true then some false else none)=some r->(a.den J==b.den J)=r:=by
   intro k hk h
   split at h
   ·rename_i h0
    cases h
    simp only[beq_iff_eq]at h0
    rw[<-hp,Bool.eq_iff_iff]
    simp only[beq_iff_eq]
    constructor
    ·intro h;omega
    ·intro h;omega
   ·rename_i h0
    simp only[beq_iff_eq]at h0
    split at h
    ·rename_i hv
     cases h
     rw[hv]at hp
     simp only[beq_iff_eq]at hp
     exact beq_eq_false_iff_ne.2 (by omega)
    ·cases h
  split at h
  ·rename_i k hk
   exact fin (.inl (jv hk)) h
  ·split at h
   ·rename_i k hk
    exact fin (.inr (jv hk)) h
   ·cases h
 ·cases h
def ap5 (f:BE×Bool->Option Bool):Facts->Option Bool
 | []=>none
 | p::Φ=>oor (f p) (ap5 f Φ)
theorem LU {J:Rho} {f:BE×Bool->Option Bool} {Q:Bool->Prop} (hf:∀p r,p.1.den J=p.2->f p=some r->Q r):∀{Φ:Facts} {r:Bool},Facts.ok J Φ->ap5 f Φ=some r->Q r
 | [],_,_,h=>by cases h
 | p::Φ,r,hk,h=>by
  have h1:=Facts.ok_tail hk
  simp only[ap5]at h
  cases e:f p with
  | some v=>rw[e]at h;cases h;exact hf p _ h1.1 e
  | none=>rw[e]at h;exact LU hf h1.2 h
def af0 (Φ:Facts) (a b:IE):Option Bool:=match Ru a b (.lit 0) (.lit 0)with
 | some k=>some (decide (k<0))
 | none=>ap5 (aa5 a b) Φ
theorem ae9 {J:Rho} {Φ:Facts} (hk:Facts.ok J Φ) {a b:IE} {r:Bool} (h:af0 Φ a b=some r):decide (a.den J<b.den J)=r:=by
 unfold af0 at h
 split at h
 ·rename_i k e
  have:=jv (J:=J) e
  simp only[IE.den]at this
  cases h
  exact decide_eq_decide.2 ⟨fun h=>by omega,fun h=>by omega⟩
 ·exact LU (Q:=fun r=>decide (a.den J<b.den J)=r) (fun p r hp=>aa4 hp) hk h
def af2 (Φ:Facts) (a b:IE):Option Bool:=match Ru a b (.lit 0) (.lit 0)with
 | some k=>some (k==0)
 | none=>ap5 (aa7 a b) Φ
theorem af1 {J:Rho} {Φ:Facts} (hk:Facts.ok J Φ) {a b:IE} {r:Bool} (h:af2 Φ a b=some r):(a.den J==b.den J)=r:=by
 unfold af2 at h
 split at h
 ·rename_i k e
  have:=jv (J:=J) e
  simp only[IE.den]at this
  cases h
  rw[Bool.eq_iff_iff]
  simp only[beq_iff_eq]
  constructor
  ·intro h;omega
  ·intro h;omega
 ·exact LU (Q:=fun r=>(a.den J==b.den J)=r) (fun p r hp=>aa6 hp) hk h
def aI9 (Φ:Facts) (o p:IOp) (k:IntKind) (a b:IE):IE:=if(A7 k .i64&&zA (Fe Φ (.op p .i64 a b)))=true then .op p .i64 a b else .op o k a b
theorem OX {J:Rho} {Φ:Facts} (hk:Facts.ok J Φ) {o p:IOp} (ho:∀x y,o.den .i64 x y=IntKind.i64.wrap (p.den .i64 x y)) (k:IntKind) (a b:IE):(aI9 Φ o p k a b).den J=o.den k (a.den J) (b.den J):=by
 unfold aI9
 split
 ·rename_i h
  rw[Bool.and_eq_true]at h
  rw[lC h.1,ho]
  have:=o5 (iE hk (.op p .i64 a b)) h.2
  simp only[IE.den]at this ⊢
  exact this.symm
 ·rfl
def aj9 (Φ:Facts) (k:IntKind) (a b:IE):IE:=if(A7 k .i64&&zA (Fe Φ (zi a b)))=true then zi a b else .op .mul k a b
theorem XW {J:Rho} {Φ:Facts} (hk:Facts.ok J Φ) (k:IntKind) (a b:IE):(aj9 Φ k a b).den J=IOp.den .mul k (a.den J) (b.den J):=by
 unfold aj9
 split
 ·rename_i h
  rw[Bool.and_eq_true]at h
  rw[lC h.1]
  have:=o5 (iE hk (zi a b)) h.2
  rw[oG]at this ⊢
  exact this.symm
 ·rfl
def Q9 (Φ:Facts) (k:IntKind) (a b:IE):IE:=if(A7 k .i64&&zA (Fe Φ a))=true then a else .op .conv k a b
theorem Q8 {J:Rho} {Φ:Facts} (hk:Facts.ok J Φ) (k:IntKind) (a b:IE):(Q9 Φ k a b).den J=IOp.den .conv k (a.den J) (b.den J):=by
 unfold Q9
 split
 ·rename_i h
  rw[Bool.and_eq_true]at h
  rw[lC h.1]
  exact(o5 (iE hk a) h.2).symm
 ·rfl
def ak0 (Φ:Facts) (k:IntKind) (a b:IE):IE:=match red Φ (eU a b)with
 | .lit true=>b
 | .lit false=>a
 | _=>match red Φ (eU b a)with
  | .lit true=>a
  | .lit false=>b
  | _=>rP .max k a b
theorem XX {J:Rho} {Φ:Facts} (hk:Facts.ok J Φ) (k:IntKind) (a b:IE):(ak0 Φ k a b).den J=IOp.max.den k (a.den J) (b.den J):=by
 have h1:=bu hk (eU a b)
 have h2:=bu hk (eU b a)
 rw[dY]at h1 h2
 unfold ak0
 split
 ·rename_i e1
  rw[e1]at h1
  have:=of_decide_eq_true (show decide (a.den J<b.den J)=true from h1.symm)
  simp only[IOp.den];omega
 ·rename_i e1
  rw[e1]at h1
  have:=of_decide_eq_false (show decide (a.den J<b.den J)=false from h1.symm)
  simp only[IOp.den];omega
 ·split
  ·rename_i e1
   rw[e1]at h2
   have:=of_decide_eq_true (show decide (b.den J<a.den J)=true from h2.symm)
   simp only[IOp.den];omega
  ·rename_i e1
   rw[e1]at h2
   have:=of_decide_eq_false (show decide (b.den J<a.den J)=false from h2.symm)
   simp only[IOp.den];omega
  ·exact jE _ _ _ _ _
def exB (Φ:Facts):IOp->IntKind->IE->IE->IE
 | .add,k,a,b=>aI9 Φ .add .padd k a b
 | .sub,k,a,b=>aI9 Φ .sub .psub k a b
 | .mul,k,a,b=>aj9 Φ k a b
 | .conv,k,a,b=>Q9 Φ k a b
 | .pmul,_,a,b=>zi a b
 | .max,k,a,b=>ak0 Φ k a b
 | o,k,a,b=>rP o k a b
theorem aJ0 {J:Rho} {Φ:Facts} (hk:Facts.ok J Φ) (o:IOp) (k:IntKind) (a b:IE):(exB Φ o k a b).den J=o.den k (a.den J) (b.den J):=by
 unfold exB
 split
 ·exact OX hk (fun _ _=>rfl) _ _ _
 ·exact OX hk (fun _ _=>rfl) _ _ _
 ·exact XW hk _ _ _
 ·exact Q8 hk _ _ _
 ·rw[oG];rfl
 ·exact XX hk _ _ _
 ·exact jE _ _ _ _ _
def a98 (Φ:Facts) (a b:IE):BE:=match af0 Φ a b with
 | some v => .lit v
 | none=>red Φ (eU a b)
def a99 (Φ:Facts) (a b:IE):BE:=match af2 Φ a b with
 | some v => .lit v
 | none=>red Φ (mkEq a b)
theorem aa2 {J:Rho} {Φ:Facts} (hk:Facts.ok J Φ) (a b:IE):(a98 Φ a b).den J=decide (a.den J<b.den J):=by
 unfold a98
 split
 ·rename_i v h;rw[ae9 hk h];rfl
 ·rw[bu hk,dY]
theorem aa3 {J:Rho} {Φ:Facts} (hk:Facts.ok J Φ) (a b:IE):(a99 Φ a b).den J=(a.den J==b.den J):=by
 unfold a99
 split
 ·rename_i v h;rw[af1 hk h];rfl
 ·rw[bu hk,cZ]
theorem Ff {J:Rho} {c:BE} {a b:IE} (h:c.den J=true):(IE.ite c a b).den J=a.den J:=by simp only[IE.den,h,if_true]
theorem KN {J:Rho} {c:BE} {a b:IE} (h:c.den J=false):(IE.ite c a b).den J=b.den J:=by simp only[IE.den,h,Bool.false_eq_true,if_false]
def chI (Φ:Facts) (e:IE):Nat->IE->IE
 | k,.ite c a b=>match c with
  | .eq x y=>if(x.beq e&&y.beq (.lit k))=true then(match red Φ (eU (.lit k) e)with
    | .lit false=>a
    | _ => .ite c a (chI Φ e (k+1) b))else .ite c a b
  | _ => .ite c a b
 | _,t=>t
theorem Vm {J:Rho} {Φ:Facts} (hk:Facts.ok J Φ) {e:IE}:∀(t:IE) (k:Nat),(k:Int)<=e.den J->(chI Φ e k t).den J=t.den J
 | .ite c a b,k,h=>by
  unfold chI
  split
  ·rename_i x y
   split
   ·rename_i hb
    rw[Bool.and_eq_true]at hb
    have h1:=IE.beq_eq _ _ hb.1
    have h2:=IE.beq_eq _ _ hb.2
    subst h1 h2
    have hr:=bu hk (eU (.lit k) x)
    split
    ·rename_i he
     rw[he,dY]at hr
     have hr:decide ((k:Int)<x.den J)=false:=hr.symm
     have hr:=of_decide_eq_false hr
     have e1:(BE.eq x (.lit k)).den J=true:=by simp only[BE.den,IE.den,beq_iff_eq];omega
     exact(Ff e1).symm
    ·cases hx:(BE.eq x (.lit k)).den J with
     | true=>exact(Ff hx).trans (Ff hx).symm
     | false =>
      have h3:¬x.den J=k:=by simpa [BE.den,IE.den]using hx
      exact(KN hx).trans ((Vm hk b (k+1) (by omega)).trans (KN hx).symm)
   ·rfl
  ·rfl
 | .lit _,_,_ | .var _,_,_ | .cl _ _ _,_,_ | .len _,_,_ | .slen _,_,_ | .byt _ _,_,_ | .op _ _ _ _,_,_ | .uf _ _ _,_,_=>rfl
def chO (Φ:Facts) (t:IE):IE:=match t with
 | .ite (.eq x y) _ _=>if y.beq (.lit 0)=true then(match red Φ (eU x (.lit 0))with
  | .lit false=>chI Φ x 0 t
  | _=>t)else t
 | t=>t
theorem aK5 {J:Rho} {Φ:Facts} (hk:Facts.ok J Φ) (t:IE):(chO Φ t).den J=t.den J:=by
 unfold chO
 split
 ·rename_i x y a b
  split
  ·have hr:=bu hk (eU x (.lit 0))
   split
   ·rename_i he
    rw[he,dY]at hr
    simp only[BE.den,IE.den]at hr
    have hr:=of_decide_eq_false hr.symm
    exact Vm hk _ 0 (by simp only[Int.ofNat_zero]at *;omega)
   ·rfl
  ·rfl
 ·rfl
mutual
def CQ (Φ:Facts):IE->IE
 | .op o k a b=>exB Φ o k (CQ Φ a) (CQ Φ b)
 | .ite c a b=>chO Φ (lu (nR Φ c) (CQ Φ a) (CQ Φ b))
 | e=>e
def nR (Φ:Facts):BE->BE
 | .lt a b=>a98 Φ (CQ Φ a) (CQ Φ b)
 | .eq a b=>a99 Φ (CQ Φ a) (CQ Φ b)
 | .not a=>mkNot (nR Φ a)
 | .and a b=>mkAnd (nR Φ a) (nR Φ b)
 | .or a b=>AU (nR Φ a) (nR Φ b)
 | .ite c a b=>jg (nR Φ c) (nR Φ a) (nR Φ b)
 | e=>red Φ e
end
mutual
theorem lm {J:Rho} {Φ:Facts} (hk:Facts.ok J Φ):∀e:IE,(CQ Φ e).den J=e.den J
 | .op o k a b=>by simp only[CQ,aJ0 hk,lm hk a,lm hk b,IE.den]
 | .ite c a b=>by simp only[CQ,aK5 hk,jF,jC hk c,lm hk a,lm hk b,IE.den]
 | .lit _=>rfl
 | .var _=>rfl
 | .cl _ _ _=>rfl
 | .len _=>rfl
 | .slen _=>rfl
 | .byt _ _=>rfl
 | .uf _ _ _=>rfl
theorem jC {J:Rho} {Φ:Facts} (hk:Facts.ok J Φ):∀e:BE,(nR Φ e).den J=e.den J
 | .lt a b=>by simp only[nR,aa2 hk,lm hk a,lm hk b,BE.den]
 | .eq a b=>by simp only[nR,aa3 hk,lm hk a,lm hk b,BE.den]
 | .not a=>by simp only[nR,bz,jC hk a,BE.den]
 | .and a b=>by simp only[nR,df,jC hk a,jC hk b,BE.den]
 | .or a b=>by simp only[nR,jD,jC hk a,jC hk b,BE.den]
 | .ite c a b=>by simp only[nR,dU,jC hk c,jC hk a,jC hk b,BE.den]
 | .lit _=>bu hk _
 | .var _=>bu hk _
 | .cl _ _ _=>bu hk _
 | .seq _ _=>bu hk _
 | .slt _ _=>bu hk _
end
def isT:BE->Bool
 | .lit b=>b
 | _=>false
theorem wM {J:Rho} {Φ:Facts} (hk:Facts.ok J Φ) {e:BE} (h:isT (nR Φ e)=true):e.den J=true:=by
 rw[<-jC hk e]
 unfold isT at h
 split at h
 ·rename_i b hb;rw[hb];exact h
 ·cases h
end Go.Proofs.Xw
namespace Go.Proofs.Xw
open Go Go.Proofs.Aw
def noB:Bind:=⟨[],[],[],[]⟩
theorem ac4 (J:Rho):noB.ap J=J:=rfl
def StepF (P:Program) (N:Nat) (body:Code) (k0:Nat) (S S':XS) (J J':Rho):Prop :=
 ∀E:Aw.Env,E.N=N->(∀m,E.c0.kn m->m.1<k0)->AW P E body (fun e σ=>e=XE.normal.to/\wZ E σ (S'.den J')) (S.den J)
def nmT (s:ig):ig->List (Nm×Nm)
 | []=>[]
 | (j,x)::r=>nmX x (bJ s j) (nmT s r)
def nmH (S s:bg):List (Nm×Nm)->List (Nm×Nm)->List (Nm×Nm)
 | [],acc=>acc
 | (a,b)::r,acc=>nmH S s r (match aT S a,aT s b with
  | some cs,some ds=>nmL cs ds acc
  | _,_=>acc)
def rowsOf (z:Nat):Nat->List X->Option RL
 | 0,_=>none
 | 1,l=>(uk (l.take z)).map RL.one
 | n+1,l=>match uk (l.take z),rowsOf z n (l.drop z)with
  | some r,some q=>some (.app (.lit 1) (.one r) q)
  | _,_=>none
def mtO (cs ds:List X) (β:Bind):Bind :=
 match cs,ds with
 | [.rows z (.len _) (.var L _)],[.rows _ m r]=>if Nat.beq z 0=true then β else⟨β.i,β.b,β.s,(L,m,r)::β.r⟩
 | [.rows z (.len _) (.var L _)],ds=>match rowsOf z (ds.length / z) ds with
  | some r=>⟨β.i,β.b,β.s,(L,.lit (ds.length / z:Nat),r)::β.r⟩
  | none=>β
 | cs,ds=>mtL cs ds β
def mtF (nm:List (Nm×Nm)) (s:bg):bg->Bind->Bind
 | [],β=>β
 | (j,cs)::r,β=>match aT s (iJ nm j)with
  | some ds=>mtO cs ds (mtF nm s r β)
  | none=>mtF nm s r β
def b40 (nm:List (Nm×Nm)) (S s:XS):Bind:=mtF nm s.h S.h (mtT s.t S.t noB)
theorem StepF.from {P:Program} {N:Nat} {body:Code} {k0:Nat} {S S':XS} {J J1 J':Rho} (h:S.den J=S.den J1) (k:StepF P N body k0 S S' J1 J'):StepF P N body k0 S S' J J':=fun E hE hb=>by
 rw[h];exact k E hE hb
end Go.Proofs.Xw
namespace Go.Proofs.Xw
open Go Go.Proofs.Aw
end Go.Proofs.Xw
namespace Go.Proofs.Xw
open Go Go.Proofs.Aw
mutual
def X.noT:X->Bool
 | .tk _ _ _ _ | .tq _ _ _ _ _ | .cel _ _ _=>false
 | .agg cs | .tup cs | .ip cs _ _=>X.noTL cs
 | .ro _ es _=>X.noTE es
 | .fn _ xs ys=>X.noTL xs&&X.noTL ys
 | .gd _ x=>x.noT
 | _=>true
def X.noTL:List X->Bool
 | []=>true
 | x::xs=>x.noT&&X.noTL xs
def X.noTE:List (List X)->Bool
 | []=>true
 | e::es=>X.noTL e&&X.noTE es
end
def Rho.tok (J:Rho) (c:Nat->Nat->Nat->NA):Rho:={ J with ct:=c }
mutual
theorem IE.den_tok (J:Rho) (c:Nat->Nat->Nat->NA):∀e:IE,e.den (J.tok c)=e.den J
 | .lit _=>rfl
 | .var _=>rfl
 | .cl l k j=>by simp only[IE.den,IE.den_tok J c j];rfl
 | .len _=>rfl
 | .slen t=>by simp only[IE.den,TE.den_tok J c t]
 | .byt t j=>by simp only[IE.den,TE.den_tok J c t,IE.den_tok J c j]
 | .op _ _ a b=>by simp only[IE.den,IE.den_tok J c a,IE.den_tok J c b]
 | .ite d a b=>by simp only[IE.den,BE.den_tok J c d,IE.den_tok J c a,IE.den_tok J c b]
 | .uf _ _ a=>by simp only[IE.den,AL.den_tok J c a]
theorem AL.den_tok (J:Rho) (c:Nat->Nat->Nat->NA):∀e:AL,e.den (J.tok c)=e.den J
 | .nil=>rfl
 | .i e r=>by simp only[AL.den,IE.den_tok J c e,AL.den_tok J c r]
 | .b e r=>by simp only[AL.den,BE.den_tok J c e,AL.den_tok J c r]
 | .s e r=>by simp only[AL.den,TE.den_tok J c e,AL.den_tok J c r]
theorem BE.den_tok (J:Rho) (c:Nat->Nat->Nat->NA):∀e:BE,e.den (J.tok c)=e.den J
 | .lit _=>rfl
 | .var _=>rfl
 | .cl l k j=>by simp only[BE.den,IE.den_tok J c j];rfl
 | .lt a b=>by simp only[BE.den,IE.den_tok J c a,IE.den_tok J c b]
 | .eq a b=>by simp only[BE.den,IE.den_tok J c a,IE.den_tok J c b]
 | .seq a b=>by simp only[BE.den,TE.den_tok J c a,TE.den_tok J c b]
 | .slt a b=>by simp only[BE.den,TE.den_tok J c a,TE.den_tok J c b]
 | .not a=>by simp only[BE.den,BE.den_tok J c a]
 | .and a b=>by simp only[BE.den,BE.den_tok J c a,BE.den_tok J c b]
 | .or a b=>by simp only[BE.den,BE.den_tok J c a,BE.den_tok J c b]
 | .ite d a b=>by simp only[BE.den,BE.den_tok J c d,BE.den_tok J c a,BE.den_tok J c b]
theorem TE.den_tok (J:Rho) (c:Nat->Nat->Nat->NA):∀e:TE,e.den (J.tok c)=e.den J
 | .lit _=>rfl
 | .var _=>rfl
 | .cl l k j=>by simp only[TE.den,IE.den_tok J c j];rfl
 | .sub t a b=>by simp only[TE.den,TE.den_tok J c t,IE.den_tok J c a,IE.den_tok J c b]
 | .ite d a b=>by simp only[TE.den,BE.den_tok J c d,TE.den_tok J c a,TE.den_tok J c b]
end
theorem Sc.den_tok (J:Rho) (c:Nat->Nat->Nat->NA) (s:Sc):s.den (J.tok c)=s.den J:=by
 cases s<;>simp only[Sc.den,IE.den_tok,BE.den_tok,TE.den_tok]
theorem yj (J:Rho) (c:Nat->Nat->Nat->NA) (l j:Nat):∀(ks:List Kd) (k:Nat),aW (J.tok c) l k ks j=aW J l k ks j
 | [],_=>rfl
 | kd::ks,k=>by cases kd<;>simp only[aW,yj J c l j ks (k+1)]<;>rfl
theorem TN (J:Rho) (c:Nat->Nat->Nat->NA) (r:List Sc):mQ (J.tok c) r=mQ J r:=by
 unfold mQ
 exact List.map_congr_left fun s _=>by rw[Sc.den_tok]
theorem RL.row_tok (J:Rho) (c:Nat->Nat->Nat->NA):∀(l:RL) (j:Int),l.row (J.tok c) j=l.row J j
 | .var l ks,j=>yj J c l _ ks 0
 | .one r,_=>TN J c r
 | .app n a b,j=>by simp only[RL.row,RL.row_tok J c a,RL.row_tok J c b,IE.den_tok]
 | .drop n a,j=>by simp only[RL.row,RL.row_tok J c a,IE.den_tok]
 | .upd i r a,j=>by simp only[RL.row,RL.row_tok J c a,IE.den_tok,TN]
 | .ite d a b,j=>by simp only[RL.row,RL.row_tok J c a,RL.row_tok J c b,BE.den_tok]
theorem H7 (J:Rho) (c:Nat->Nat->Nat->NA) (n:IE) (l:RL):aC (J.tok c) n l=aC J n l:=by
 unfold aC
 rw[IE.den_tok]
 exact List.map_congr_left fun j _=>RL.row_tok J c l j
theorem yl (J:Rho) (c:Nat->Nat->Nat->NA) (l j:Nat):∀(ks:List Nk) (k:Nat),dQ (J.tok c) l k ks j=dQ J l k ks j
 | [],_=>rfl
 | .f kd::ks,k=>by cases kd<;>simp only[dQ,ve,yl J c l j ks (k+1)]<;>rfl
 | .r z S kk::ks,k=>by
  simp only[dQ,uu,yl J c l j ks (k+1),yj J c S]
  rfl
theorem VS (J:Rho) (c:Nat->Nat->Nat->NA) (n:IE) (l:Nat) (ks:List Nk):jB (J.tok c) n l ks=jB J n l ks:=by
 unfold jB
 rw[IE.den_tok]
 exact List.map_congr_left fun j _=>yl J c l j ks 0
theorem yf (J:Rho) (c:Nat->Nat->Nat->NA) (d:Nat):∀az,choose (J.tok c) az d=choose J az d
 | []=>rfl
 | (e,o)::r=>by simp only[choose,BE.den_tok,yf J c d r]
mutual
theorem X.den_tok (J:Rho) (c:Nat->Nat->Nat->NA):∀x:X,x.noT=true->x.den (J.tok c)=x.den J
 | .top,_=>rfl
 | .k _,_=>rfl
 | .sc s,_=>by simp only[X.den,Sc.den_tok]
 | .agg cs,h=>by simp only[X.den,X.denL_tok J c cs h]
 | .tup cs,h=>by simp only[X.den,X.denL_tok J c cs h]
 | .ptr _ az d,_=>by simp only[X.den,yf]
 | .sl _ _ _ _ _,_=>rfl
 | .ip cs az d,h=>by simp only[X.den,X.denL_tok J c cs h,yf]
 | .ro _ es _,h=>by simp only[X.den,X.denE_tok J c es h]
 | .rl _ n l _,_=>by simp only[X.den,H7]
 | .rn _ n l ks _,_=>by simp only[X.den,VS]
 | .fn _ xs ys,h=>by
  simp only[X.noT,Bool.and_eq_true]at h
  simp only[X.den,X.denL_tok J c xs h.1,X.denL_tok J c ys h.2]
 | .gd e x,h=>by simp only[X.den,BE.den_tok,X.den_tok J c x h]
 | .rows _ _ _,_=>rfl
 | .slv _ _ _ _ _,_=>by simp only[X.den,IE.den_tok]
 | .ptrv _ _ _ _,_=>by simp only[X.den,IE.den_tok]
 | .tk _ _ _ _,h=>by cases h
 | .tq _ _ _ _ _,h=>by cases h
 | .cel _ _ _,h=>by cases h
theorem X.denL_tok (J:Rho) (c:Nat->Nat->Nat->NA):∀l:List X,X.noTL l=true->X.denL (J.tok c) l=X.denL J l
 | [],_=>rfl
 | x::xs,h=>by
  simp only[X.noTL,Bool.and_eq_true]at h
  simp only[X.denL,X.den_tok J c x h.1,X.denL_tok J c xs h.2]
theorem X.denE_tok (J:Rho) (c:Nat->Nat->Nat->NA):∀l:List (List X),X.noTE l=true->X.denE (J.tok c) l=X.denE J l
 | [],_=>rfl
 | x::xs,h=>by
  simp only[X.noTE,Bool.and_eq_true]at h
  simp only[X.denE,X.denL_tok J c x h.1,X.denE_tok J c xs h.2]
end
abbrev LY:=List (Nat×IE×Nat×List (List X))
def JG (v:AV):NA:=if h:(Aw.nms (fun _=>false) v&&v.one)=true then⟨v,(Bool.and_eq_true _ _▸h).1,(Bool.and_eq_true _ _▸h).2⟩else UB 0 0 0
theorem Dx {v:AV} (h1:Aw.nms (fun _=>false) v=true) (h2:v.one=true):(JG v).1=v:=by
 unfold JG
 rw[dif_pos (by rw[h1,h2];rfl)]
noncomputable def Af (J:Rho) (m:IE) (t:Nat) (es:List (List X)) (k j:Nat):NA :=
 if j<(m.den J).toNat then J.ct t k j else JG (((X.denE J es)[j-(m.den J).toNat]?.bind (·[k]?)).getD (.sc (.bool false)))
noncomputable def tkC (q:LY) (J:Rho) (t:Nat):Nat->Nat->NA:=match aB t q with
 | some (m,t0,es)=>Af J m t0 es
 | none=>J.ct t
noncomputable def Bind.apT (β:Bind) (q:LY) (J:Rho):Rho:=(β.ap J).tok (tkC q J)
theorem Bind.agreeT {n:Nat} {β:Bind} {q:LY} (h:β.ge n=true) (hq:kK n q=true) (J:Rho):Agree n J (β.apT q J):=by
 have a:=Bind.agree h J
 exact⟨a.i,a.b,a.s,a.len,a.ci,a.cb,a.cs,fun k hk=>by
  show J.ct k=tkC q J k
  unfold tkC
  rw[jR hq hk]⟩
theorem aw1 {J:Rho} {β:Bind} {q:LY} {z t t0:Nat} {m m':IE} {es:List (List X)} (hq:aB t q=some (m',t0,es)) (h0:0<=m'.den J) (hm:m.den (β.apT q J)=m'.den J+es.length) (ho:ba1 z es=true):bD (β.apT q J) z m t=bD J z m' t0++X.denE J es:=by
 have hl:(bD J z m' t0).length=(m'.den J).toNat:=by unfold bD;rw[List.length_map,List.length_range]
 apply List.ext_getElem?
 intro j
 have ct:∀k,((β.apT q J).ct t k j).1=(Af J m' t0 es k j).1:=fun k=>by
  show(tkC q J t k j).1=_
  unfold tkC
  rw[hq]
 have hE:(X.denE J es).length=es.length:=by simp[X.denE_eq]
 by_cases c1:j<(m'.den J).toNat
 ·rw[List.getElem?_append_left (by omega)]
  unfold bD
  rw[List.getElem?_map,List.getElem?_map,List.getElem?_range (by omega),List.getElem?_range c1,Option.map_some,Option.map_some]
  congr 1
  exact List.map_congr_left fun k _=>by
   rw[ct]
   unfold Af
   rw[if_pos c1]
 ·rw[List.getElem?_append_right (by omega),hl]
  by_cases c2:j<(m'.den J).toNat+es.length
  ·unfold bD
   rw[List.getElem?_map,List.getElem?_range (by omega),Option.map_some]
   obtain⟨e,he⟩:∃e,es[j-(m'.den J).toNat]? = some e:=⟨_,List.getElem?_eq_getElem (by omega)⟩
   have ho:=List.all_eq_true.1 ho e (List.mem_of_getElem? he)
   simp only[Bool.and_eq_true]at ho
   have hz:=Nat.eq_of_beq_eq_true ho.1
   rw[X.denE_get,he,Option.map_some]
   congr 1
   apply List.ext_getElem?
   intro k
   rw[List.getElem?_map]
   by_cases ck:k<z
   ·rw[List.getElem?_range ck,Option.map_some,ct]
    unfold Af
    rw[if_neg c1,X.denE_get,he,Option.map_some,Option.bind_some]
    obtain⟨x,hx⟩:∃x,e[k]? = some x:=⟨_,List.getElem?_eq_getElem (by omega)⟩
    have hv:(X.denL J e)[k]? = some (x.den J):=by rw[X.denL_get,hx];rfl
    rw[hv,Option.getD_some,Dx (jZ (X.nnL_den J e ho.2.1) hv) (X.one_den J x (List.all_eq_true.1 ho.2.2 x (List.mem_of_getElem? hx)))]
   ·rw[List.getElem?_eq_none (by rw[List.length_range];omega),List.getElem?_eq_none (by rw[X.denL_len];omega)];rfl
  ·rw[List.getElem?_eq_none (by unfold bD;rw[List.length_map,List.length_range];omega),List.getElem?_eq_none (by rw[hE];omega)]
def aC5 (n:Nat) (β:Bind) (q:LY) (z:Nat) (m:IE) (t:Nat) (m':IE) (t':Nat) (es:List (List X)):Bool :=
 m'.nn&&(ba1 z es&&(okI n β m (fC m' (.lit es.length))&&(if Nat.ble n t=true then(match aB t q with
  | some (m2,t2,es2)=>m2.beq m'&&(Nat.beq t2 t'&&X.beqE es2 es)
  | none=>false)else Nat.beq t t'&&Nat.beq es.length 0)))
def aC7 (n:Nat) (β:Bind) (q:LY) (φ:Nm->Nm) (p e:List X):Bool :=
 match p with
 | [.tk z m t []]=>(match e with
  | [.tk z' m' t' es]=>Nat.beq z z'&&aC5 n β q z m t m' t' es
  | e => !aZ e&&(Nat.blt 0 z&&(Nat.beq e.length (e.length / z*z)&&aC5 n β q z m t (.lit 0) 0 (pF z (e.length / z) e))))
 | p=>X.noTL p&&okO n β φ p e
theorem NS {n:Nat} {β:Bind} {q:LY} (hg:β.ge n=true) (hq:kK n q=true) {J:Rho} {z:Nat} {m:IE} {t:Nat} {m':IE} {t':Nat} {es:List (List X)} (h:aC5 n β q z m t m' t' es=true):bD (β.apT q J) z m t=bD J z m' t'++X.denE J es:=by
 unfold aC5 at h
 simp only[Bool.and_eq_true]at h
 obtain⟨h1,h2,h3,h4⟩:=h
 have h1:=IE.nn_den J m' h1
 have h3:m.den (β.apT q J)=m'.den J+es.length:=by
  have:=iM hg (J:=J) h3
  rw[bK]at this
  simp only[IE.den]at this
  rw[<-this]
  exact IE.den_tok _ _ m
 split at h4
 ·split at h4
  ·rename_i m2 t2 es2 hl
   simp only[Bool.and_eq_true]at h4
   have e1:=IE.beq_eq _ _ h4.1
   have e2:=Nat.eq_of_beq_eq_true h4.2.1
   have e3:=X.beqE_eq _ _ h4.2.2
   subst e1 e2 e3
   exact aw1 hl h1 h3 h2
  ·cases h4
 ·rename_i ht
  simp only[Bool.and_eq_true]at h4
  have e1:=Nat.eq_of_beq_eq_true h4.1
  subst e1
  obtain rfl:es=[]:=List.length_eq_zero_iff.1 (Nat.eq_of_beq_eq_true h4.2)
  have ct:(β.apT q J).ct t=J.ct t:=((Bind.agreeT hg hq J).ct t (by simpa using ht)).symm
  simp only[List.length_nil,Int.ofNat_zero,Int.add_zero]at h3
  unfold bD
  rw[h3,ct]
  simp[X.denE]
theorem ab2 {n:Nat} {β:Bind} {q:LY} (hg:β.ge n=true) (hq:kK n q=true) {φ:Nm->Nm} {J:Rho} {p e:List X} (h:aC7 n β q φ p e=true):aF J e=Aw.renL φ (aF (β.apT q J) p):=by
 unfold aC7 at h
 split at h
 ·rename_i z m t
  have e1:aF (β.apT q J) [.tk z m t []]=(bD (β.apT q J) z m t).flatten:=by simp[aF,X.denE]
  rw[e1,gG φ _ (jM jL)]
  split at h
  ·simp only[Bool.and_eq_true]at h
   have e2:=Nat.eq_of_beq_eq_true h.1
   subst e2
   rw[NS hg hq h.2]
   rfl
  ·simp only[Bool.and_eq_true,Bool.not_eq_true']at h
   obtain⟨h1,h2,h3,h4⟩:=h
   rw[NS hg hq h4,bC h1]
   have:bD J z (.lit 0) 0=[]:=rfl
   rw[this,List.nil_append,mF,kD _ _ _ (by rw[X.denL_len];exact Nat.eq_of_beq_eq_true h3)]
 ·simp only[Bool.and_eq_true]at h
  rw[Um hg h.2]
  have:aF (β.apT q J) p=aF (β.ap J) p:=by
   by_cases hr:aZ p=true
   ·unfold aZ at hr
    split at hr
    ·simp only[aF];unfold Bind.apT;rw[H7]
    ·have:=h.1
     simp[X.noTL,X.noT]at this
    ·cases hr
   ·have hr:aZ p=false:=by simpa using hr
    rw[bC hr,bC hr]
    exact X.denL_tok _ _ p h.1
  rw[this]
def Kq (k0 n:Nat) (β:Bind) (q:LY) (nm:List (Nm×Nm)) (S σ:XS):Bool :=
  kK n q&&(β.ge n&&(Nat.ble k0 S.nx&&(ae5 k0 nm&&(QV (iJ nm) (S.h.map (·.1)) &&
  (S.t.all (fun p=>X.noT (bJ S.t p.1)&&Uk n β (iJ nm) S.nx (bJ S.t p.1) (bJ σ.t p.1)) &&
   S.h.all (fun p=>match aT S.h p.1 with
    | some cs=>X.nmsL (fun m=>Nat.blt m.1 S.nx) cs&&(Nat.blt p.1.1 S.nx&&(match aT σ.h (iJ nm p.1)with
      | some es=>aC7 n β q (iJ nm) cs es
      | none=>false))
    | none=>true))))))
theorem uC {E:Aw.Env} {k0 n:Nat} (hb:∀m,E.c0.kn m->m.1<k0) {β:Bind} {q:LY} {nm:List (Nm×Nm)} {S σ:XS} (h:Kq k0 n β q nm S σ=true) (J:Rho):wZ E (σ.den J) (S.den (β.apT q J)):=by
 simp only[Kq,Bool.and_eq_true,Nat.ble_eq]at h
 obtain⟨hq,hg,hk,hlow,hinj,ht,hh⟩:=h
 have key:∀m cs,hget (aV (β.apT q J) S.h) m=some cs->∃ds es,aT S.h m=some ds/\cs=aF (β.apT q J) ds/\X.nmsL (fun m=>Nat.blt m.1 S.nx) ds=true/\m.1<S.nx/\aT σ.h (iJ nm m)=some es/\aC7 n β q (iJ nm) ds es=true:=fun m cs hcs=>by
  rw[aG]at hcs
  obtain⟨ds,hd,rfl⟩:=Option.map_eq_some_iff.1 hcs
  have:=List.all_eq_true.1 hh _ (kU _ _ _ hd)
  simp only[hd,Bool.and_eq_true,Nat.blt_eq]at this
  obtain⟨h1,h2,h3⟩:=this
  split at h3
  ·rename_i es he
   exact⟨ds,es,hd,rfl,h1,h2,he,h3⟩
  ·cases h3
 refine L8 (σ':=S.den (β.apT q J)) (iJ nm) hb (fun m hm=>AC hlow hm) hk (fun i => ?_) (fun m cs hcs => ?_) (fun m m' hm hm' he => ?_)
 ·simp only[XS.den,dW]
  rcases qK S.t i with h | ⟨v,hv⟩
  ·rw[h];exact .inl rfl
  ·have:=List.all_eq_true.1 ht _ hv
   simp only[Bool.and_eq_true]at this
   obtain⟨hn,this⟩:=this
   simp only[Uk]at this
   split at this
   ·rename_i hp;rw[hp];exact .inl rfl
   ·simp only[Bool.and_eq_true]at this
    refine .inr ⟨X.nms_den _ _ this.1,?_⟩
    rw[DD hg _ _ this.2]
    unfold Bind.apT
    rw[X.den_tok _ _ _ hn]
 ·obtain⟨ds,es,h1,rfl,h3,h4,h5,h6⟩:=key m cs hcs
  refine⟨X.nmsO_den _ _ h3,h4,?_⟩
  simp only[XS.den]
  rw[aG,h5,Option.map_some,ab2 hg hq h6]
 ·obtain⟨cs,hcs⟩:=Option.isSome_iff_exists.1 hm
  obtain⟨cs',hcs'⟩:=Option.isSome_iff_exists.1 hm'
  obtain⟨ds,_,h1,_⟩:=key m cs hcs
  obtain⟨ds',_,h1',_⟩:=key m' cs' hcs'
  exact DN hinj m (List.mem_map.2 ⟨_,kU _ _ _ h1,rfl⟩) m' (List.mem_map.2 ⟨_,kU _ _ _ h1',rfl⟩) he
theorem Zl {P:Program} {J:Rho} {N:Nat} {body:Code} {ti:Nat->Option TI} {call:bI} {ms:List Nat} {lps:List LoopX} {fuel k0 n:Nat} {S S' U:XS} {s:XS} (hm:P.follows .mixedOrders=true) (hti:TIs.ok P ti)
  (hcall:dJ P J call) (hlps:LpsOk P J N lps body) (hfit:fD N body=true) {Φ':Facts} (hk:Facts.ok J Φ') (hd:S.den J=S'.den J) {ks:List Nat}
  (hsel:((dG ti call ms k0 lps fuel body Φ' S').map (yC ks)).sel J=some (.normal,s)) {β:Bind} {q:LY} {nm:List (Nm×Nm)} (hok:Kq k0 n β q nm U s=true):StepF P N body k0 S U J (β.apT q J):=by
 intro E hE hkn
 obtain⟨p,hq,he⟩:=T.sel_map _ hsel
 rw[hd]
 have g:=dV (E:=E) hm hti hcall hkn body Φ' _ p.1 p.2 hk (by rw[hE];exact hfit) (by rw[hE];exact hlps) hq
 have q1:=congrArg Prod.fst he
 have q2:=congrArg Prod.snd he
 simp only at q1 q2
 refine bY (fun e' s' hh=>⟨?_,?_⟩) g
 ·rw[hh.1,show p.1=XE.normal from q1.symm]
 ·have i:=jr hh.2 (Ai ks J p)
  rw[<-q2]at i
  exact o6 i (uC hkn hok J)
end Go.Proofs.Xw
namespace Go.Proofs.Xw
open Go Go.Proofs.Aw
inductive DT where
 | leaf
 | hole (k:Nat)
 | br (c:BE) (a b:DT)
 | brH (k:Nat) (a b:DT)
abbrev VC:=List (BE×Facts)
def GG (H:VC):Prop:=∀(p:BE×Facts),p∈H->∀J:Rho,p.1.den J=true->Facts.ok J p.2
def DT.ok (H:VC) (chk:Facts->Bool):DT->Facts->Bool
 | .leaf,Φ=>chk Φ
 | .hole _,_=>true
 | .br c a b,Φ=>match red Φ c with
  | .lit true=>a.ok H chk Φ
  | .lit false=>b.ok H chk Φ
  | c=>a.ok H chk (assume c true Φ)&&b.ok H chk (assume c false Φ)
 | .brH k a b,Φ=>match H[k]? with
  | some (c,fs)=>(match red Φ c with
   | .lit true=>a.ok H chk (fs++Φ)
   | .lit false=>b.ok H chk Φ
   | d=>a.ok H chk (fs++assume d true Φ)&&b.ok H chk (assume d false Φ))
  | none=>false
def DT.holes (H:VC):DT->Facts->List (Nat×Facts)
 | .leaf,_=>[]
 | .hole k,Φ=>[(k,Φ)]
 | .br c a b,Φ=>match red Φ c with
  | .lit true=>a.holes H Φ
  | .lit false=>b.holes H Φ
  | c=>a.holes H (assume c true Φ)++b.holes H (assume c false Φ)
 | .brH k a b,Φ=>match H[k]? with
  | some (c,fs)=>(match red Φ c with
   | .lit true=>a.holes H (fs++Φ)
   | .lit false=>b.holes H Φ
   | d=>a.holes H (fs++assume d true Φ)++b.holes H (assume d false Φ))
  | none=>[]
theorem aY {J:Rho} {a b:Facts} (h:Facts.ok J a) (k:Facts.ok J b):Facts.ok J (a++b):=fun p hp=>by
 rcases List.mem_append.1 hp with hp | hp
 ·exact h p hp
 ·exact k p hp
theorem DT.ok_sel {H:VC} (hH:GG H) {chk:Facts->Bool} {J:Rho}:∀(d:DT) (Φ:Facts),d.ok H chk Φ=true->Facts.ok J Φ->(∃Φ',Facts.ok J Φ'/\chk Φ'=true)\/∃p∈d.holes H Φ,Facts.ok J p.2
 | .leaf,Φ,h,hk => .inl ⟨Φ,hk,h⟩
 | .hole k,Φ,_,hk => .inr ⟨(k,Φ),List.mem_cons_self,hk⟩
 | .br c a b,Φ,h,hk=>by
  have hr:=bu hk c
  simp only[DT.ok]at h
  simp only[DT.holes]
  split at h
  ·exact DT.ok_sel hH a Φ h hk
  ·exact DT.ok_sel hH b Φ h hk
  ·rw[Bool.and_eq_true]at h
   cases hc:(red Φ c).den J with
   | true =>
    rcases DT.ok_sel hH a _ h.1 (dC _ true Φ hc hk)with g | ⟨p,hp,g⟩
    ·exact .inl g
    ·exact .inr ⟨p,List.mem_append_left _ hp,g⟩
   | false =>
    rcases DT.ok_sel hH b _ h.2 (dC _ false Φ hc hk)with g | ⟨p,hp,g⟩
    ·exact .inl g
    ·exact .inr ⟨p,List.mem_append_right _ hp,g⟩
 | .brH k a b,Φ,h,hk=>by
  simp only[DT.ok]at h
  simp only[DT.holes]
  split at h
  ·rename_i c fs he
   have hr:=bu hk c
   have hm:=hH _ (List.mem_of_getElem? he) J
   split at h
   ·rename_i e
    rw[e]at hr
    exact DT.ok_sel hH a _ h (aY (hm hr.symm) hk)
   ·exact DT.ok_sel hH b Φ h hk
   ·rw[Bool.and_eq_true]at h
    cases hc:(red Φ c).den J with
    | true =>
     rcases DT.ok_sel hH a _ h.1 (aY (hm (by rw[<-hr];exact hc)) (dC _ true Φ hc hk))with g | ⟨p,hp,g⟩
     ·exact .inl g
     ·exact .inr ⟨p,List.mem_append_left _ hp,g⟩
    | false =>
     rcases DT.ok_sel hH b _ h.2 (dC _ false Φ hc hk)with g | ⟨p,hp,g⟩
     ·exact .inl g
     ·exact .inr ⟨p,List.mem_append_right _ hp,g⟩
  ·cases h
def ac2 (Φ:Facts):X->X
 | .sc (.b e) => .sc (.b (nR Φ e))
 | .sc (.i k e) => .sc (.i k (CQ Φ e))
 | x=>x
theorem EN {J:Rho} {Φ:Facts} (hk:Facts.ok J Φ) (x:X):(ac2 Φ x).den J=x.den J:=by
 unfold ac2
 split
 ·simp only[X.den,Sc.den,jC hk]
 ·simp only[X.den,Sc.den,lm hk]
 ·rfl
def aD9 (Φ:Facts):List X->List X
 | []=>[]
 | x::xs=>ac2 Φ x::aD9 Φ xs
theorem NZ {J:Rho} {Φ:Facts} (hk:Facts.ok J Φ):∀l:List X,X.denL J (aD9 Φ l)=X.denL J l
 | []=>rfl
 | x::xs=>by simp only[aD9,X.denL,EN hk x,NZ hk xs]
def aD8 (Φ:Facts):List (List X)->List (List X)
 | []=>[]
 | x::xs=>aD9 Φ x::aD8 Φ xs
theorem NY {J:Rho} {Φ:Facts} (hk:Facts.ok J Φ):∀l:List (List X),X.denE J (aD8 Φ l)=X.denE J l
 | []=>rfl
 | x::xs=>by simp only[aD8,X.denE,NZ hk x,NY hk xs]
def lenOf:Facts->IE->IE
 | [],n=>n
 | (c,v)::r,n=>match c,v with
  | .eq a (.len L),true=>if a.beq n=true then .len L else lenOf r n
  | _,_=>lenOf r n
theorem qV {J:Rho}:∀{Φ:Facts} (_:Facts.ok J Φ) (n:IE),(lenOf Φ n).den J=n.den J
 | [],_,n=>rfl
 | (c,v)::r,hk,n=>by
  have hr:Facts.ok J r:=fun p hp=>hk p (List.mem_cons_of_mem _ hp)
  simp only[lenOf]
  split
  ·split
   ·rename_i a L hb
    have h1:=hk _ List.mem_cons_self
    rw[<-IE.beq_eq _ _ hb]
    simp only[BE.den,beq_iff_eq]at h1
    exact h1.symm
   ·exact qV hr n
  ·exact qV hr n
def aD3 (Φ:Facts):X->X
 | .rl z n l f=>match red Φ (mkEq n (.lit 1))with
  | .lit true => .rl z (.lit 1) l f
  | _=>match red Φ (mkEq n (.lit 0))with
   | .lit true => .ro z [] f
   | _ => .rl z (lenOf Φ n) l f
 | .slv m z o n w => .slv m z o (lenOf Φ n) w
 | x=>ac2 Φ x
theorem NU {J:Rho} {Φ:Facts} (hk:Facts.ok J Φ) (x:X):(aD3 Φ x).den J=x.den J:=by
 unfold aD3
 split
 ·rename_i z n l f
  split
  ·rename_i e
   have hr:=bu hk (mkEq n (.lit 1))
   rw[e,cZ]at hr
   have hr:n.den J=1:=eq_of_beq (show(n.den J==1)=true from hr.symm)
   simp only[X.den,aC,hr,IE.den]
  ·split
   ·rename_i e
    have hr:=bu hk (mkEq n (.lit 0))
    rw[e,cZ]at hr
    have hr:n.den J=0:=eq_of_beq (show(n.den J==0)=true from hr.symm)
    have e0:aC J n l=[]:=by unfold aC;rw[hr];rfl
    simp only[X.den,e0];rfl
   ·simp only[X.den,aC,qV hk]
 ·simp only[X.den,qV hk]
 ·exact EN hk _
def NT (Φ:Facts):List X->List X
 | []=>[]
 | x::xs=>aD3 Φ x::NT Φ xs
theorem Iu {J:Rho} {Φ:Facts} (hk:Facts.ok J Φ):∀l:List X,X.denL J (NT Φ l)=X.denL J l
 | []=>rfl
 | x::xs=>by simp only[NT,X.denL,NU hk x,Iu hk xs]
def ba4 (Φ:Facts) (z:Nat):X->X
 | .ro z' es _=>match es with
  | [] => .ro z [] false
  | es => .ro z' (aD8 Φ es) false
 | .rl z' n l _=>aD3 Φ (.rl z' n l false)
 | .k v=>if VI v (.slice none 0 0)=true then .ro z [] false else .k v
 | x=>ac2 Φ x
theorem aD4 {J:Rho} {Φ:Facts} (hk:Facts.ok J Φ) (z:Nat) (x:X):LeA ((ba4 Φ z x).den J) (x.den J):=by
 unfold ba4
 split
 ·split
  ·intro C u hu
   obtain⟨A,cap,h1,h2,_,_⟩:=iw.1 hu
   exact iw.2 ⟨A,cap,h1,h2,fun h=>(nomatch h),fun h=>absurd rfl h⟩
  ·intro C u hu
   simp only[X.den]at hu ⊢
   rw[NY hk]
   exact DC (f':=false) (fun h=>(nomatch h)) hu
 ·intro C u hu
  rw[NU hk]
  simp only[X.den]at hu ⊢
  exact DC (f':=false) (fun h=>(nomatch h)) hu
 ·split
  ·rename_i hv
   rw[JD hv]
   intro C u hu
   have hu:u = .slice none 0 0:=hu
   exact iw.2 ⟨none,0,hu,Nat.le_refl _,fun h=>(nomatch h),fun h=>absurd rfl h⟩
  ·exact LeA.refl _
 ·exact LeA.of_eq (EN hk _)
def Xh (Φ:Facts):List Nat->List X->List X
 | z::zs,x::xs=>ba4 Φ z x::Xh Φ zs xs
 | _,xs=>xs
theorem LeC.cons {a b:AV} {x y:List AV} (h:LeA a b) (k:LeC x y):LeC (a::x) (b::y):=by
 refine⟨by simp[k.1],fun j v hj => ?_⟩
 cases j with
 | zero=>simp only[List.getElem?_cons_zero,Option.some.injEq]at hj;subst hj;exact⟨b,rfl,h⟩
 | succ j=>exact k.2 j v (by simpa using hj)
theorem LeC.app {a b x y:List AV} (h:LeC a b) (k:LeC x y):LeC (a++x) (b++y):=by
 refine⟨by simp[h.1,k.1],fun j v hj => ?_⟩
 rw[List.getElem?_append]at hj ⊢
 rw[<-h.1]
 split at hj
 ·rename_i hc;rw[if_pos hc];exact h.2 j v hj
 ·rename_i hc;rw[if_neg hc];exact k.2 _ v hj
theorem DF {J:Rho} {Φ:Facts} (hk:Facts.ok J Φ):∀(zs:List Nat) (l:List X),LeC (X.denL J (Xh Φ zs l)) (X.denL J l)
 | [],_=>LeC.refl _
 | _::_,[]=>LeC.refl _
 | z::zs,x::xs=>LeC.cons (aD4 hk z x) (DF hk zs xs)
def Ut (Φ:Facts) (nz:List Nat):List (List X)->List (List X)
 | []=>[]
 | e::es=>Xh Φ nz e::Ut Φ nz es
theorem NV {J:Rho} {Φ:Facts} (hk:Facts.ok J Φ) (nz:List Nat):∀(es:List (List X)),LeC (X.denE J (Ut Φ nz es)).flatten (X.denE J es).flatten
 | []=>LeC.refl _
 | e::es=>by
  simp only[Ut,X.denE,List.flatten_cons]
  exact LeC.app (DF hk nz e) (NV hk nz es)
def aD6 (Φ:Facts) (nz:List Nat) (cs:List X):List X:=match cs with
 | [.tk z m t es]=>[.tk z m t (Ut Φ nz es)]
 | [.rows z n l]=>[.rows z (lenOf Φ n) l]
 | cs=>if aZ (NT Φ cs)=true then cs else if(Nat.beq cs.length nz.length && !aZ (Xh Φ nz cs))=true then Xh Φ nz cs else NT Φ cs
theorem aD5 {J:Rho} {Φ:Facts} (hk:Facts.ok J Φ) (nz:List Nat) (cs:List X):LeC (aF J (aD6 Φ nz cs)) (aF J cs):=by
 unfold aD6
 split
 ·simp only[aF,List.flatten_append]
  exact LeC.app (LeC.refl _) (NV hk nz _)
 ·simp only[aF,aC,qV hk]
  exact LeC.refl _
 ·rename_i n1 n2
  have hr:aZ cs=false:=by
   cases hi:aZ cs with
   | false=>rfl
   | true =>
    unfold aZ at hi
    split at hi
    ·exact absurd rfl (n2 _ _ _)
    ·exact absurd rfl (n1 _ _ _ _)
    ·cases hi
  split
  ·exact LeC.refl _
  ·rename_i hz
   split
   ·rename_i hc
    simp only[Bool.and_eq_true,Bool.not_eq_true']at hc
    rw[bC hc.2,bC hr]
    exact DF hk nz cs
   ·rw[bC (by simpa using hz),bC hr,Iu hk]
    exact LeC.refl _
def aD7 (Φ:Facts) (nz:List Nat):bg->bg
 | []=>[]
 | (m,cs)::r=>(m,aD6 Φ nz cs)::aD7 Φ nz r
theorem NW {Φ:Facts} {nz:List Nat} {m:Nm}:∀{h:bg},aT (aD7 Φ nz h) m=(aT h m).map (aD6 Φ nz)
 | []=>rfl
 | (k,cs)::r=>by
  simp only[aD7,aT]
  split
  ·rfl
  ·exact NW
def XS.nrm (Φ:Facts) (nz:List Nat) (s:XS):XS:=⟨s.t,aD7 Φ nz s.h,s.nx⟩
theorem XS.nrm_le {J:Rho} {Φ:Facts} (hk:Facts.ok J Φ) (nz:List Nat) (s:XS):LeS ((s.nrm Φ nz).den J) (s.den J):=by
 refine⟨fun i=>LeA.refl _,fun m cs hcs => ?_,Nat.le_refl _⟩
 simp only[XS.den,XS.nrm,aG,NW]at hcs ⊢
 cases hg:aT s.h m with
 | none=>rw[hg]at hcs;cases hcs
 | some ds =>
  rw[hg]at hcs
  simp only[Option.map_some,Option.some.injEq]at hcs ⊢
  subst hcs
  exact⟨_,rfl,aD5 hk nz ds⟩
def wkL:List X->List X->List X
 | p::ps,x::xs=>(match p with | .top => .top | _=>x)::wkL ps xs
 | _,xs=>xs
theorem YO (J:Rho):∀(ps l:List X),LeC (X.denL J (wkL ps l)) (X.denL J l)
 | [],_=>LeC.refl _
 | _::_,[]=>LeC.refl _
 | p::ps,x::xs=>by
  simp only[wkL,X.denL]
  refine LeC.cons ?_ (YO J ps xs)
  split
  ·exact LeA.top _
  ·exact LeA.refl _
def Z8 (nm:List (Nm×Nm)) (m:Nm):bg->List X
 | []=>[]
 | (k,cs)::r=>if eG (iJ nm k) m=true then cs else Z8 nm m r
def wkO (ps cs:List X):List X:=if(aZ cs||aZ (wkL ps cs))=true then cs else wkL ps cs
theorem aT7 (J:Rho) (ps cs:List X):LeC (aF J (wkO ps cs)) (aF J cs):=by
 unfold wkO
 split
 ·exact LeC.refl _
 ·rename_i h
  simp only[Bool.or_eq_true,not_or,Bool.not_eq_true]at h
  rw[bC h.1,bC h.2]
  exact YO J ps cs
def wkH (nm:List (Nm×Nm)) (S:bg):bg->bg
 | []=>[]
 | (m,cs)::r=>(m,wkO (Z8 nm m S) cs)::wkH nm S r
theorem TA {nm:List (Nm×Nm)} {S:bg} {m:Nm}:∀{h:bg},aT (wkH nm S h) m=(aT h m).map (wkO (Z8 nm m S))
 | []=>rfl
 | (k,cs)::r=>by
  simp only[wkH,aT]
  split
  ·rename_i e;rw[bT e];rfl
  ·exact TA
def XS.wk (nm:List (Nm×Nm)) (S:bg) (s:XS):XS:=⟨s.t,wkH nm S s.h,s.nx⟩
theorem XS.wk_le (J:Rho) (nm:List (Nm×Nm)) (S:bg) (s:XS):LeS ((s.wk nm S).den J) (s.den J):=by
 refine⟨fun i=>LeA.refl _,fun m cs hcs => ?_,Nat.le_refl _⟩
 simp only[XS.den,XS.wk,aG,TA]at hcs ⊢
 cases hg:aT s.h m with
 | none=>rw[hg]at hcs;cases hcs
 | some ds =>
  rw[hg]at hcs
  simp only[Option.map_some,Option.some.injEq]at hcs ⊢
  subst hcs
  exact⟨_,rfl,aT7 J _ ds⟩
def tkH (nm:List (Nm×Nm)) (s:bg):bg->LY
 | []=>[]
 | (j,cs)::r=>match cs with
  | [.tk z _ t []]=>(match aT s (iJ nm j)with
   | some [.tk _ m' t' es]=>(t,m',t',es)::tkH nm s r
   | some ds=>(t,.lit 0,0,pF z (ds.length / z) ds)::tkH nm s r
   | none=>tkH nm s r)
  | _=>tkH nm s r
def tkL (q:LY):bg->List (Nat×IE×RL)
 | []=>[]
 | (_,cs)::r=>match cs with
  | [.tk _ (.len L) t []]=>(match aB t q with
   | some (m',_,es)=>(L,fC m' (.lit es.length),.one [])::tkL q r
   | none=>tkL q r)
  | _=>tkL q r
def cz7:X->X->List (Nat×IE×RL)->List (Nat×IE×RL)
 | .rl _ (.len _) (.var L _) _,.rl _ n l _,r=>(L,n,l)::r
 | .rl _ (.len _) (.var L _) _,.ro _ es _,r=>(match Ed es with
  | some l=>(L,.lit es.length,l)::r
  | none=>r)
 | _,_,r=>r
def bT9:List X->List X->List (Nat×IE×RL)->List (Nat×IE×RL)
 | x::xs,y::ys,r=>cz7 x y (bT9 xs ys r)
 | _,_,r=>r
def bc5 (nm:List (Nm×Nm)) (s:bg):bg->List (Nat×IE×RL)
 | []=>[]
 | (j,cs)::r=>match aT s (iJ nm j)with
  | some ds=>bT9 cs ds (bc5 nm s r)
  | none=>bc5 nm s r
def Bind.trim (n:Nat) (β:Bind):Bind :=
  ⟨β.i.filter fun p=>Nat.ble n p.1 && !p.2.beq (.var p.1),β.b.filter fun p=>Nat.ble n p.1 && !p.2.beq (.var p.1),β.s.filter fun p=>Nat.ble n p.1 && !p.2.beq (.var p.1),
   β.r.filter fun p=>Nat.ble n p.1 && !(p.2.1.beq (.len p.1)&&(match p.2.2 with | .var l _=>Nat.beq l p.1 | .one []=>true | _=>false))⟩
def ao2 (n:Nat) (nm:List (Nm×Nm)) (q:LY) (S s:XS):Bind :=
 let β:=b40 nm S s
 (⟨β.i,β.b,β.s,tkL q S.h++(bc5 nm s.h S.h++β.r)⟩:Bind).trim n
inductive Tk where
 | f (k:Kd)
 | r (z:Nat) (ks:List Kd)
def Tk.av:Tk->AV->Prop
 | .f k,v=>ql [k] [v]
 | .r z ks,v=>∃es,v = .ro z es false/\es.length<=1000/\∀e∈es,ql ks e
def tyE (ks:List Kd) (es:List (List X)):Bool:=es.all fun e=>match uk e with
 | some s=>yS ks s
 | none=>false
def tyX (Φ:Facts):Tk->X->Bool
 | .f k,.sc s=>aY0 k s
 | .r z ks,.ro z' es full => !full&&(Nat.beq z z'&&(Nat.ble es.length 1000&&tyE ks es))
 | .r z ks,.rl z' n l full => !full&&(Nat.beq z z'&&(sees Φ (.lt (.lit 1000) n,false)&&l.kd ks))
 | _,_=>false
theorem Y1 {J:Rho} {Φ:Facts} (hk:Facts.ok J Φ) {t:Tk} {x:X} (h:tyX Φ t x=true):t.av (x.den J):=by
 unfold tyX at h
 split at h
 ·exact uo (J:=J) (show yS [_] [_]=true by simp only[yS,h,Bool.and_self])
 ·rename_i z ks z' es full
  simp only[Bool.and_eq_true,Bool.not_eq_true']at h
  obtain⟨h0,h⟩:=h
  have h1:=Nat.eq_of_beq_eq_true h.1
  subst h0 h1
  obtain⟨_,h2,h⟩:=h
  refine⟨_,rfl,by rw[X.denE_eq,List.length_map];exact Nat.le_of_ble_eq_true h2,fun e he => ?_⟩
  rw[X.denE_eq]at he
  obtain⟨d,hd,rfl⟩:=List.mem_map.1 he
  have:=List.all_eq_true.1 h d hd
  split at this
  ·rename_i sc hs
   rw[<-ou (J:=J) hs]
   exact uo this
  ·cases this
 ·rename_i z ks z' n l full
  simp only[Bool.and_eq_true,Bool.not_eq_true']at h
  obtain⟨h0,h⟩:=h
  have h1:=Nat.eq_of_beq_eq_true h.1
  subst h0 h1
  obtain⟨_,h2,h⟩:=h
  have h2:¬(1000:Int)<n.den J:=of_decide_eq_false (rF hk h2)
  refine⟨_,rfl,by rw[gy];omega,fun e he => ?_⟩
  obtain⟨j,_,rfl⟩:=List.mem_map.1 he
  exact RL.kd_av h
 ·cases h
def tyR (Φ:Facts):List Tk->List X->Bool
 | [],_=>true
 | t::ts,x::xs=>tyX Φ t x&&tyR Φ ts xs
 | _,_=>false
theorem JE {Φ:Facts}:∀{kt:List Tk} {e:List X} {k:Nat} {t:Tk},tyR Φ kt e=true->kt[k]? = some t->∃x,e[k]? = some x/\tyX Φ t x=true
 | [],_,_,_,_,h=>by simp at h
 | _::_,[],_,_,h,_=>by cases h
 | t::ts,x::xs,0,t',h,hk=>by
  simp only[tyR,Bool.and_eq_true]at h
  simp only[List.getElem?_cons_zero,Option.some.injEq]at hk
  subst hk
  exact⟨x,rfl,h.1⟩
 | t::ts,x::xs,k+1,t',h,hk=>by
  simp only[tyR,Bool.and_eq_true]at h
  rw[List.getElem?_cons_succ]at hk ⊢
  exact JE h.2 hk
def BD (l:Nat) (kt:List Tk) (J:Rho):Prop:=∀(j k:Nat) (t:Tk),j<J.len l->kt[k]? = some t->t.av (J.ct l k j).1
def tyF (Φ:Facts) (l z:Nat) (kt:List Tk) (β:Bind) (q:LY):Bool:=match aB l q with
 | some (m,t0,es)=>m.nn&&((m.beq (.lit 0)||(Nat.beq t0 l&&m.beq (.len l)))&&(((match aB l β.r with
  | some (n,_)=>n
  | none => .len l).beq (fC m (.lit es.length)))&&(ba1 z es&&es.all (tyR Φ kt))))
 | none=>(aB l β.r).isNone
theorem Y2 {Φ:Facts} {l z:Nat} {kt:List Tk} {β:Bind} {q:LY} {J:Rho} (hk:Facts.ok J Φ) (h:tyF Φ l z kt β q=true) (ht:BD l kt J):BD l kt (β.apT q J):=by
 unfold tyF at h
 intro j k t hj hkt
 have hlen:(β.apT q J).len l=match aB l β.r with | some (n,_)=>(n.den J).toNat | none=>J.len l:=rfl
 have hct:(β.apT q J).ct l k j=tkC q J l k j:=rfl
 rw[hct]
 split at h
 ·rename_i m t0 es hq
  simp only[Bool.and_eq_true,Bool.or_eq_true]at h
  obtain⟨h1,h2,h3,h4,h5⟩:=h
  have m0:=IE.nn_den J m h1
  have h3:=IE.beq_eq _ _ h3
  have hL:(β.apT q J).len l=(m.den J).toNat+es.length:=by
   rw[hlen]
   cases hr:aB l β.r with
   | some v =>
    rw[hr]at h3
    have:=congrArg (IE.den J) h3
    simp only[bK,IE.den]at this
    simp only
    omega
   | none =>
    rw[hr]at h3
    have:=congrArg (IE.den J) h3
    simp only[bK,IE.den]at this
    simp only
    omega
  unfold tkC
  rw[hq]
  show t.av (Af J m t0 es k j).1
  unfold Af
  split
  ·rename_i hc
   rcases h2 with h2 | h2
   ·have:=IE.beq_eq _ _ h2
    subst this
    simp[IE.den]at hc
   ·have e1:=Nat.eq_of_beq_eq_true h2.1
    have e2:=IE.beq_eq _ _ h2.2
    subst e1 e2
    exact ht j k t (by simpa [IE.den]using hc) hkt
  ·rename_i hc
   obtain⟨e,he⟩:∃e,es[j-(m.den J).toNat]? = some e:=⟨_,List.getElem?_eq_getElem (by omega)⟩
   have ho:=List.all_eq_true.1 h4 e (List.mem_of_getElem? he)
   simp only[Bool.and_eq_true]at ho
   obtain⟨x,hx,hxt⟩:=JE (List.all_eq_true.1 h5 e (List.mem_of_getElem? he)) hkt
   have hv:(X.denL J e)[k]? = some (x.den J):=by rw[X.denL_get,hx];rfl
   rw[X.denE_get,he,Option.map_some,Option.bind_some,hv,Option.getD_some,Dx (jZ (X.nnL_den J e ho.2.1) hv) (X.one_den J x (List.all_eq_true.1 ho.2.2 x (List.mem_of_getElem? hx)))]
   exact Y1 hk hxt
 ·rename_i hq
  unfold tkC
  rw[hq]
  refine ht j k t ?_ hkt
  rw[hlen,Option.isNone_iff_eq_none.1 h]at hj
  exact hj
def ba5 (S s:XS):List (Nm×Nm):=let a:=nmT s.t S.t;let b:=nmH S.h s.h a [];a++(b++nmH S.h s.h b [])
structure Alt where
 fr:Nat
 ki:List Nat
 kr:List Nat
 i:List (Nat×IE)
 r:List (Nat×IE×RL)
 fs:Facts:=[]
structure Cls where
 S:XS
 Ψ:Facts
 al:List Alt
def Bind.keeps (β:Bind) (ki kr:List Nat):Bool:=ki.all (fun k=>(aB k β.i).isNone)&&kr.all (fun k=>(aB k β.r).isNone)
def Alt.fits (β:Bind) (a:Alt):Bool:=β.keeps a.ki a.kr&&(a.i.all (fun p=>match aB p.1 β.i with | some e=>e.beq p.2 | none=>false)&&a.r.all (fun p=>match aB p.1 β.r with | some (n,l)=>n.beq p.2.1&&l.beq p.2.2 | none=>false))
def aI5 (k0 n I:Nat) (nz:List Nat) (kt:Nat×List Tk) (i:Nat) (C:Cls) (Φ:Facts) (s0:XS):Bool :=
 let s1:=s0.nrm Φ nz
 let nm:=ba5 C.S s1
 let s:=s1.wk nm C.S.h
 let q:=tkH nm s.h C.S.h
 let β:=ao2 n nm q C.S s
 Kq k0 n β q nm C.S s&&((kt.2.isEmpty||tyF Φ kt.1 kt.2.length kt.2 β q)&&(C.Ψ.all (TM β Φ)&&(ah4 I β&&(C.al.isEmpty||C.al.any fun a=>Nat.beq a.fr i&&(a.fs.all (sees Φ)&&a.fits β)))))
def OT (k0 n I:Nat) (nz:List Nat) (kt:Nat×List Tk) (i:Nat) (Φ:Facts) (s:XS):List Cls->Nat->Bool
 | [],_=>false
 | C::cs,j=>aI5 k0 n I nz kt i C Φ s||OT k0 n I nz kt i Φ s cs (j+1)
theorem Bi {k0 n I:Nat} {nz:List Nat} {kt:Nat×List Tk} {i:Nat} {Φ:Facts} {s:XS}:∀{cs:List Cls} {a:Nat},OT k0 n I nz kt i Φ s cs a=true->∃(j:Nat) (C:Cls),cs[j]? = some C/\aI5 k0 n I nz kt i C Φ s=true
 | [],_,h=>by cases h
 | C::cs,a,h=>by
  simp only[OT,Bool.or_eq_true]at h
  rcases h with h | h
  ·exact⟨0,C,rfl,h⟩
  ·obtain⟨j,D,h1,h2⟩:=Bi h
   exact⟨j+1,D,h1,h2⟩
def ao5:XE->XE->Bool
 | .normal,.normal=>true
 | .exit a,.exit b=>Nat.beq a b
 | .ret,.ret=>true
 | _,_=>false
theorem Pi {a b:XE} (h:ao5 a b=true):a=b:=by
 cases a<;>cases b<;>first | rfl | (cases h;done) | skip
 rw[Nat.eq_of_beq_eq_true h]
def eqS (S s:XS):Bool:=S.t.all (fun p=>(match p.2 with | .top=>true | _=>(bJ S.t p.1).beq (bJ s.t p.1)))&&(S.h.all (fun q=>match aT S.h q.1,aT s.h q.1 with | some a,some b=>X.beqL a b | _,_=>false)&&Nat.ble s.nx S.nx)
theorem bk7 {S s:XS} (h:eqS S s=true) (hu:∀i,bJ S.t i = .top\/∃v,(i,v)∈S.t/\bJ S.t i=v) (J:Rho):LeS (S.den J) (s.den J):=by
 simp only[eqS,Bool.and_eq_true,List.all_eq_true]at h
 obtain⟨h1,h2,h3⟩:=h
 refine⟨fun i => ?_,fun m cs hcs => ?_,Nat.le_of_ble_eq_true h3⟩
 ·simp only[XS.den,dW]
  rcases hu i with e | ⟨v,hv,e⟩
  ·rw[e];exact LeA.top _
  ·have:=h1 _ hv
   simp only at this
   split at this
   ·rw[e];exact LeA.top _
   ·rw[X.beq_eq _ _ this];exact LeA.refl _
 ·simp only[XS.den,aG]at hcs ⊢
  cases hg:aT S.h m with
  | none=>rw[hg]at hcs;cases hcs
  | some ds =>
   rw[hg]at hcs
   simp only[Option.map_some,Option.some.injEq]at hcs
   subst hcs
   have:=h2 _ (gI _ _ _ hg)
   simp only[hg]at this
   split at this
   ·rename_i a b e1 e2
    cases e1
    rw[e2,X.beqL_eq _ _ this]
    exact⟨_,rfl,LeC.refl _⟩
   ·cases this
theorem Hq:∀(t:ig) (i:Nat),bJ t i = .top\/∃v,(i,v)∈t/\bJ t i=v
 | [],i => .inl rfl
 | (j,v)::l,i=>by
  simp only[bJ]
  split
  ·rename_i h;rw[Nat.eq_of_beq_eq_true h];exact .inr ⟨v,List.mem_cons_self,rfl⟩
  ·rcases Hq l i with h | ⟨w,hw,h⟩
   ·exact .inl h
   ·exact .inr ⟨w,List.mem_cons_of_mem _ hw,h⟩
def jV (k0 n I:Nat) (nz:List Nat) (kt:Nat×List Tk) (i:Nat) (cs:List Cls) (S:XS) (xe:XE):Facts->T (XE×XS)->Bool
 | Φ,.ret (.normal,s)=>OT k0 n I nz kt i Φ s cs 0
 | _,.ret (e,s)=>ao5 e xe&&(!ao5 e .normal&&eqS S s)
 | Φ,.br c x y=>match red Φ c with
  | .lit true=>jV k0 n I nz kt i cs S xe Φ x
  | .lit false=>jV k0 n I nz kt i cs S xe Φ y
  | _=>jV k0 n I nz kt i cs S xe (assume c true Φ) x&&jV k0 n I nz kt i cs S xe (assume c false Φ) y
 | Φ,.need c x=>match red Φ c with
  | .lit true=>jV k0 n I nz kt i cs S xe Φ x
  | _=>false
 | _,.fail _=>false
theorem oU {J:Rho} {k0 n I:Nat} {nz:List Nat} {kt:Nat×List Tk} {i:Nat} {cs:List Cls} {S:XS} {xe:XE}:∀(t:T (XE×XS)) (Φ:Facts),jV k0 n I nz kt i cs S xe Φ t=true->Facts.ok J Φ->∃e s Φ',t.sel J=some (e,s)/\Facts.ok J Φ' /\
  ((e = .normal/\OT k0 n I nz kt i Φ' s cs 0=true)\/(e=xe/\e ≠ .normal/\eqS S s=true))
 | .ret (.normal,s),Φ,h,hk=>⟨_,s,Φ,rfl,hk,.inl ⟨rfl,h⟩⟩
 | .ret (.exit j,s),Φ,h,hk=>by
  simp only[jV,Bool.and_eq_true]at h
  exact⟨_,s,Φ,rfl,hk,.inr ⟨Pi h.1,(fun h=>by cases h),h.2.2⟩⟩
 | .ret (.ret,s),Φ,h,hk=>by
  simp only[jV,Bool.and_eq_true]at h
  exact⟨_,s,Φ,rfl,hk,.inr ⟨Pi h.1,(fun h=>by cases h),h.2.2⟩⟩
 | .br c x y,Φ,h,hk=>by
  have hr:=bu hk c
  simp only[jV]at h
  split at h
  ·rename_i e
   rw[e]at hr
   have hr:c.den J=true:=hr.symm
   obtain⟨e',s,Φ',h1,h2⟩:=oU x Φ h hk
   exact⟨e',s,Φ',by simp only[T.sel,hr,if_true];exact h1,h2⟩
  ·rename_i e
   rw[e]at hr
   have hr:c.den J=false:=hr.symm
   obtain⟨e',s,Φ',h1,h2⟩:=oU y Φ h hk
   exact⟨e',s,Φ',by simp only[T.sel,hr,Bool.false_eq_true,if_false];exact h1,h2⟩
  ·rw[Bool.and_eq_true]at h
   cases hc:c.den J with
   | true =>
    obtain⟨e',s,Φ',h1,h2⟩:=oU x _ h.1 (dC c true Φ hc hk)
    exact⟨e',s,Φ',by simp only[T.sel,hc,if_true];exact h1,h2⟩
   | false =>
    obtain⟨e',s,Φ',h1,h2⟩:=oU y _ h.2 (dC c false Φ hc hk)
    exact⟨e',s,Φ',by simp only[T.sel,hc,Bool.false_eq_true,if_false];exact h1,h2⟩
 | .need c x,Φ,h,hk=>by
  have hr:=bu hk c
  simp only[jV]at h
  split at h
  ·rename_i e
   rw[e]at hr
   have hr:c.den J=true:=hr.symm
   obtain⟨e',s,Φ',h1,h2⟩:=oU x Φ h hk
   exact⟨e',s,Φ',by simp only[T.sel,hr,if_true];exact h1,h2⟩
  ·cases h
 | .fail _,_,h,_=>by cases h
def aT3 (ki kr:List Nat) (J J':Rho):Prop:=(∀k∈ki,J'.i k=J.i k)/\∀k∈kr,J'.len k=J.len k/\J'.ci k=J.ci k/\J'.cb k=J.cb k/\J'.cs k=J.cs k
theorem ag8 {β:Bind} {q:LY} {ki kr:List Nat} (h:β.keeps ki kr=true) (J:Rho):aT3 ki kr J (β.apT q J):=by
 simp only[Bind.keeps,Bool.and_eq_true,List.all_eq_true,Option.isNone_iff_eq_none]at h
 refine⟨fun k hk => ?_,fun k hk=>⟨?_,?_,?_,?_⟩⟩
 ·show(match aB k β.i with | some e=>e.den J | none=>J.i k)=_
  rw[h.1 k hk]
 ·show(match aB k β.r with | some (n,_)=>(n.den J).toNat | none=>J.len k)=_
  rw[h.2 k hk]
 ·funext a b
  show(match aB k β.r with | some (_,r)=>ai (r.row J b)[a]? | none=>J.ci k a b)=_
  rw[h.2 k hk]
 ·funext a b
  show(match aB k β.r with | some (_,r)=>fU (r.row J b)[a]? | none=>J.cb k a b)=_
  rw[h.2 k hk]
 ·funext a b
  show(match aB k β.r with | some (_,r)=>cellS (r.row J b)[a]? | none=>J.cs k a b)=_
  rw[h.2 k hk]
def kW (a:Alt) (J J':Rho):Prop:=Facts.ok J a.fs/\aT3 a.ki a.kr J J'/\(∀p∈a.i,J'.i p.1=p.2.den J) /\
 ∀p∈a.r,J'.len p.1=(p.2.1.den J).toNat/\(∀(k j:Nat),J'.ci p.1 k j=ai (p.2.2.row J j)[k]?)/\(∀(k j:Nat),J'.cb p.1 k j=fU (p.2.2.row J j)[k]?)/\∀(k j:Nat),J'.cs p.1 k j=cellS (p.2.2.row J j)[k]?
theorem Alt.fits_ok {β:Bind} {q:LY} {a:Alt} {Φ:Facts} {J:Rho} (hk:Facts.ok J Φ) (hf:(a.fs.all (sees Φ))=true) (h:a.fits β=true):kW a J (β.apT q J):=by
 simp only[Alt.fits,Bool.and_eq_true,List.all_eq_true]at h
 obtain⟨h1,h2,h3⟩:=h
 refine⟨fun p hp=>rF hk (List.all_eq_true.1 hf p hp),ag8 h1 J,fun p hp => ?_,fun p hp => ?_⟩
 ·have:=h2 p hp
  split at this
  ·rename_i e he
   have:=IE.beq_eq _ _ this
   subst this
   show(match aB p.1 β.i with | some e=>e.den J | none=>J.i p.1)=_
   rw[he]
  ·cases this
 ·have:=h3 p hp
  split at this
  ·rename_i n l he
   rw[Bool.and_eq_true]at this
   have e1:=IE.beq_eq _ _ this.1
   have e2:=RL.beq_eq this.2
   subst e1 e2
   refine⟨?_,fun k j => ?_,fun k j => ?_,fun k j => ?_⟩
   ·show(match aB p.1 β.r with | some (n,_)=>(n.den J).toNat | none=>J.len p.1)=_
    rw[he]
   ·show(match aB p.1 β.r with | some (_,r)=>ai (r.row J j)[k]? | none=>J.ci p.1 k j)=_
    rw[he]
   ·show(match aB p.1 β.r with | some (_,r)=>fU (r.row J j)[k]? | none=>J.cb p.1 k j)=_
    rw[he]
   ·show(match aB p.1 β.r with | some (_,r)=>cellS (r.row J j)[k]? | none=>J.cs p.1 k j)=_
    rw[he]
  ·cases this
theorem Na {β:Bind} {q:LY} {J:Rho} {Φ Ψ:Facts} (hk:Facts.ok J Φ) (h:Ψ.all (TM β Φ)=true):Facts.ok (β.apT q J) Ψ:=fun p hp=>by
 have:=Zu hk h p hp
 unfold Bind.apT
 rw[BE.den_tok]
 exact this
theorem iL {P:Program} {J:Rho} {N:Nat} {body:Code} {ti:Nat->Option TI} {call:bI} {ms:List Nat} {lps:List LoopX} {fuel k0 n I:Nat} {nz:List Nat} {kt:Nat×List Tk} {i:Nat} {cs:List Cls} {S:XS} {xe:XE} {Φ:Facts} (hm:P.follows .mixedOrders=true) (hti:TIs.ok P ti)
  (hcall:dJ P J call) (hlps:LpsOk P J N lps body) (hfit:fD N body=true) (hk:Facts.ok J Φ) {ks:List Nat}
  {So:XS} (hrun:jV k0 n I nz kt i cs So xe Φ ((dG ti call ms k0 lps fuel body Φ S).map (yC ks))=true) :
  yA P N body k0 S (.ret (xe,So)) J\/∃(j:Nat) (C:Cls) (J':Rho),cs[j]? = some C/\StepF P N body k0 S C.S J J'/\Facts.ok J' C.Ψ/\J'.i I=IntKind.i64.wrap (J.i I+1)/\Agree n J J'/\(BD kt.1 kt.2 J->BD kt.1 kt.2 J')/\(C.al=[]\/∃a∈C.al,a.fr=i/\kW a J J'):=by
 obtain⟨e,s,Φ',h1,h2,h3⟩:=oU _ _ hrun hk
 obtain⟨p,hq,he⟩:=T.sel_map _ h1
 have q1:e=p.1:=congrArg Prod.fst he
 have q2:s=(yC ks p).2:=congrArg Prod.snd he
 rcases h3 with⟨hn,hf⟩ | ⟨hx,hn,hf⟩
 ·right
  obtain⟨j,C,g1,g2⟩:=Bi hf
  simp only[aI5,Bool.and_eq_true]at g2
  obtain⟨g2,gt,g3,g4,g5⟩:=g2
  generalize hn0:ba5 C.S (s.nrm Φ' nz)=nm at g2 gt g3 g4 g5
  generalize hs1:(s.nrm Φ' nz).wk nm C.S.h=s1 at g2 gt g3 g4 g5
  generalize hτ:tkH nm s1.h C.S.h=τ at g2 gt g3 g4 g5
  generalize hβ:ao2 n nm τ C.S s1=β at g2 gt g3 g4 g5
  have hg:=g2
  simp only[Kq,Bool.and_eq_true]at hg
  refine⟨j,C,β.apT τ J,g1,fun E hE hkn => ?_,Na h2 g3,?_,Bind.agreeT hg.2.1 hg.1 J,fun ht => ?_,?_⟩
  ·have g:=dV (E:=E) hm hti hcall hkn body Φ _ p.1 p.2 hk (by rw[hE];exact hfit) (by rw[hE];exact hlps) hq
   refine bY (fun e' s' hh=>⟨?_,?_⟩) g
   ·rw[hh.1,<-q1,hn]
   ·have i:=jr hh.2 (Ai ks J p)
    rw[<-q2]at i
    have l:=(XS.wk_le J nm C.S.h (s.nrm Φ' nz)).trans (XS.nrm_le h2 nz s)
    rw[hs1]at l
    exact o6 (jr i l) (uC hkn g2 J)
  ·unfold ah4 at g4
   split at g4
   ·rename_i e' hI
    have:=IE.beq_eq _ _ g4
    subst this
    show(match aB I β.i with | some e=>e.den J | none=>J.i I)=_
    rw[hI]
    simp only[IE.den,IOp.den]
   ·cases g4
  ·rw[Bool.or_eq_true]at gt
   rcases gt with gt | gt
   ·have:=List.isEmpty_iff.1 gt
    intro j k t _ hk'
    rw[this]at hk'
    simp at hk'
   ·exact Y2 h2 gt ht
  ·rw[Bool.or_eq_true]at g5
   rcases g5 with g5 | g5
   ·left;exact List.isEmpty_iff.1 g5
   ·right
    obtain⟨a,ha,g6⟩:=List.any_eq_true.1 g5
    simp only[Bool.and_eq_true]at g6
    exact⟨a,ha,Nat.eq_of_beq_eq_true g6.1,Alt.fits_ok h2 g6.2.1 g6.2.2⟩
 ·left
  intro E hE hkn
  have g:=dV (E:=E) hm hti hcall hkn body Φ _ p.1 p.2 hk (by rw[hE];exact hfit) (by rw[hE];exact hlps) hq
  refine bY (fun e' s' hh=>⟨e,So,hn,by rw[hx];rfl,?_,?_⟩) g
  ·rw[hh.1,<-q1]
  ·have i:=jr hh.2 (Ai ks J p)
   rw[<-q2]at i
   exact jr i (bk7 hf (Hq _) J)
theorem xI {P:Program} {N:Nat} {body:Code} {k0 n:Nat} {S0:XS} (hS:S0.bel n=true) (Ss:Nat->XS) (L:Nat->LoopX) (hL:∀i,(L i).k0=k0/\(L i).S=S0/\(L i).init=noB) (R:Nat->Rho->Prop) (M:Rho->Nat)
  (hR:∀i J,R i J->yA P N body k0 (Ss i) (L i).out J\/∃i' J',StepF P N body k0 (Ss i) (Ss i') J J'/\R i' J'/\M J'<M J/\Agree n J J')
  {J:Rho} (h0:∃i J0,Agree n J J0/\R i J0/\∀E:Aw.Env,E.N=N->(∀m,E.c0.kn m->m.1<k0)->wZ E (S0.den J) ((Ss i).den J0)):∃i Jf,Agree n J Jf/\R i Jf/\LoopOk P Jf N body (L i):=by
 have key:∀(k:Nat) (i:Nat) (J:Rho),M J<=k->R i J->∃i' Jf,Agree n J Jf/\R i' Jf/\∀E:Aw.Env,E.N=N->(∀m,E.c0.kn m->m.1<k0)->∃m,SE P E body (fun e σ=>∃e' s,(L i').out.sel Jf=some (e',s)/\e=e'.to/\wZ E σ (s.den Jf)) m ((Ss i).den J):=by
  have fin:∀i J,yA P N body k0 (Ss i) (L i).out J->∀E:Aw.Env,E.N=N->(∀m,E.c0.kn m->m.1<k0)->∃m,SE P E body (fun e σ=>∃e' s,(L i).out.sel J=some (e',s)/\e=e'.to/\wZ E σ (s.den J)) m ((Ss i).den J):=fun i J h E hE hb=>by
   refine⟨1,bY (fun e σ hq => ?_) (h E hE hb)⟩
   obtain⟨e',s,h1,h2,rfl,h4⟩:=hq
   cases e' with
   | normal=>exact absurd rfl h1
   | exit j=>exact⟨_,s,h2,rfl,h4⟩
   | ret=>exact⟨_,s,h2,rfl,h4⟩
  intro k
  induction k with
  | zero =>
   intro i J hk hr
   rcases hR i J hr with h | ⟨i',J',_,_,h,_⟩
   ·exact⟨i,J,Agree.refl _ _,hr,fin i J h⟩
   ·omega
  | succ k ih =>
   intro i J hk hr
   rcases hR i J hr with h | ⟨i',J',h1,h2,h3,h5⟩
   ·exact⟨i,J,Agree.refl _ _,hr,fin i J h⟩
   ·obtain⟨i2,Jf,g2,g3,g4⟩:=ih i' J' (by omega) h2
    refine⟨i2,Jf,h5.trans g2,g3,fun E hE hb => ?_⟩
    obtain⟨m,g5⟩:=g4 E hE hb
    refine⟨m+1,bY (fun e σ hq => ?_) (h1 E hE hb)⟩
    obtain⟨rfl,hi⟩:=hq
    cases m with
    | zero=>exact g5.elim
    | succ m=>exact sW hi g5
 obtain⟨i,J0,a0,hr,himp⟩:=h0
 obtain⟨i',Jf,g2,g3,g4⟩:=key (M J0) i J0 (Nat.le_refl _) hr
 refine⟨i',Jf,a0.trans g2,g3,fun E hE hb => ?_⟩
 obtain⟨e1,e2,e3⟩:=hL i'
 rw[e2,e3,ac4,<-XS.bel_den (a0.trans g2) S0 hS]
 rw[e1]at hb
 obtain⟨m,g5⟩:=g4 E hE hb
 exact sW (himp E hE hb) (wU m g5)
end Go.Proofs.Xw
namespace Go.Proofs.Xw
open Go Go.Proofs.Aw Go.ChangeShapes Go.WideShapes
section
variable {H:Type} {enc:TypeId×Value->H} {P:Program}
theorem mapM_len {α β:Type} {f:α->Option β}:∀{l:List α} {r:List β},l.mapM f=some r->r.length=l.length
 | [],r,h=>by simp only[List.mapM_nil,pure,Option.some.injEq]at h;subst h;rfl
 | a::l,r,h=>by
  simp only[List.mapM_cons,bind,Option.bind_eq_some_iff,pure,Option.some.injEq]at h
  obtain⟨y,_,ys,hys,rfl⟩:=h
  simp[mapM_len hys]
theorem af5 {t e:TypeId} (hu:P.underlying t=some (.slice e)) {W:World} {A:Option Addr} {len cap:Nat} {d:DataW H} {p:List MemPlace} (h:DataW.Trod enc P W 0 (fun _=>true) true t (.slice A len cap) d p):len=0\/∃elems spare,d = .slice elems spare/\elems.length=len:=by
 obtain⟨n,h⟩:=h
 cases n with
 | zero=>simp[DataW.trod]at h
 | succ n =>
  have hv:(Value.slice A len cap).cells.toList=[.slice A len cap]:=rfl
  rw[hv,DataW.trod_step]at h
  unfold DataW.trodStep at h
  rw[hu]at h
  cases A with
  | none =>
   left
   cases len<;>cases cap<;>simp_all
  | some a =>
   simp only at h
   split at h
   ·obtain⟨elems,he,h⟩:=Option.bind_eq_some_iff.1 h
    obtain⟨rest,_,h⟩:=Option.map_eq_some_iff.1 h
    right
    have h1:=congrArg Prod.fst h
    simp only at h1
    exact⟨_,_,h1.symm,by rw[List.length_map,mapM_len he,List.length_range]⟩
   ·cases h
theorem Ot {W:World} {gs:List (DataW H)} {us:List TypeId}:∀{ts:List TypeId} {vs:List Value} {ds:List (DataW H)} {p:List MemPlace},DataW.TrodAll enc P W 0 (fun _=>true) true ts vs ds p->(DataW.weightsEach P (ts++us) (ds++gs)).all (· <= reachBytes)=true ->
  ∀(j:Nat) (t e:TypeId) (A:Option Addr) (len cap:Nat),ts[j]? = some t->vs[j]? = some (.slice A len cap)->P.underlying t=some (.slice e)->len*P.bytesOf e<=reachBytes
 | [],_,_,_,_,_,j,t,e,A,len,cap,h1,_,_=>by simp at h1
 | t0::ts,vs,ds,p,h,hw,j,t,e,A,len,cap,h1,h2,hu=>by
  obtain⟨v,vs',d,ds',p1,p2,rfl,rfl,rfl,g1,g2⟩:=trodAll_cons h
  simp only[List.cons_append,DataW.weightsEach,List.all_append,Bool.and_eq_true]at hw
  cases j with
  | zero =>
   simp only[List.getElem?_cons_zero,Option.some.injEq]at h1 h2
   subst h1 h2
   rcases af5 hu g1 with h0 | ⟨elems,spare,rfl,hl⟩
   ·subst h0;simp
   ·have:=hw.1
    simp only[DataW.weights,hu,List.all_cons,Bool.and_eq_true,decide_eq_true_eq]at this
    have h3:=this.1
    rw[hl]at h3
    exact Nat.le_trans (Nat.mul_le_mul_right _ (Nat.le_add_right _ _)) h3
  | succ j=>exact Ot g2 hw.2 j t e A len cap (by simpa using h1) (by simpa using h2) hu
def Short (P:Program) (ts:List TypeId) (vs:List Value):Prop:=∀(j:Nat) (t e:TypeId) (A:Option Addr) (len cap:Nat),ts[j]? = some t->vs[j]? = some (.slice A len cap)->P.underlying t=some (.slice e)->len*P.bytesOf e<=reachBytes
end
theorem KZ {H:Type} {enc:TypeId×Value->H} {a:Assume} {C:Checked} {os:Os} {f:FuncId} {fn:Func} {s:ChangeSpec} {conds:List PathCond} {apart fresh handsOn again:Bool}
  (own:ownKnob C.prog.godebug=none) (started:os.Started) (noInit:C.prog.inits.idxOf? f=none) (hfn:C.prog.funcs[f]? = some fn)
  (witness:∃(w:World) (tape:Tape) (i:Input),w.os=os/\(w.forCall tape i).Shaped C.prog/\i.vars=[]/\Input.okWide C.prog (w.forCall tape i) .any w.heap.size f i /\
   s.pre6 enc C.prog fn conds apart (w.forCall tape i).memory i.args/\a.holds C.prog (lone (Frame.enter C.prog f i.args .normal) [] (w.forCall tape i)))
  (contract:∀(W:World) (base:Nat) (args:Array Value) (ds gs:List (DataW H)) (before:List MemPlace),
   (∀(j:Nat) t v,fn.params[j]? = some t->args[j]? = some v->Value.okWide C.prog W .any base t v) ->
   DataW.Whole enc C.prog fn.params.toList s.vars apart W args.toList ds gs before ->
   (DataW.weightsEach C.prog (fn.params.toList++s.plain.varTypes C.prog) (ds++gs)).all (· <= reachBytes)=true ->
   Calls C.prog f args W fun e W'=>∃v,e = .returned v/\s.post enc C.prog fn apart fresh handsOn again W args v W') :
  ReturnsInHanded a C os f .any (s.pre6 enc C.prog fn conds apart) (s.post enc C.prog fn apart fresh handsOn again):=by
 have h:=returnsInHanded_of_change_and (enc:=enc) (a:=a) (C:=C) (os:=os) (f:=f) (fn:=fn) (s:=s) (conds:=conds) (apart:=apart) (fresh:=fresh) (handsOn:=handsOn) (again:=again) (X:=fun _ _=>True) (fun _ _ _ _ h=>h) own started noInit hfn
  (by
   obtain⟨w,t,i,a1,a2,a3,a4,⟨a5,a6⟩,a7⟩:=witness
   exact⟨w,t,i,a1,a2,a3,a4,⟨⟨a5,trivial⟩,a6⟩,a7⟩) (fun W base args ds gs before h1 h2 _ h4 _ _=>contract W base args ds gs before h1 h2 h4)
 have e:(fun w args=>(s.pre enc C.prog fn conds apart w args/\True)/\sizedMet enc C.prog fn (OpenSpec.ofChange s) apart w args)=s.pre6 enc C.prog fn conds apart:=by
  funext w args
  simp only[ChangeSpec.pre6,and_true]
 rw[<-e]
 exact h
end Go.Proofs.Xw
namespace Go.Proofs.Xw
open Go Go.Proofs.Aw
def inF (F:List Nm) (n:Nm):Bool:=F.any (eG n)
def cC1 (h:bg) (F:List Nm) (z:Nat):X->X
 | .slv n z' off len w=>if inF F n=true then(match aT h n with
   | some [.rows z'' m l]=>if(Nat.beq z' z''&&(off.beq (.lit 0)&&(len.beq m&&l.wd z')))=true then .rl z' m l false else .top
   | _ => .top)else .slv n z' off len w
 | .k v=>if VI v (.slice none 0 0)=true then .ro z [] false else .k v
 | x=>x
def cC0 (h:bg) (F:List Nm) (m0:Nm) (z:Nat) (m:Nm) (cs:List X):List X:=if(eG m m0 && !(aZ cs))=true then cs.map (cC1 h F z)else cs
def bi3 (h:bg) (F:List Nm) (m0:Nm) (z:Nat):bg->bg
 | []=>[]
 | (m,cs)::r=>if inF F m=true then bi3 h F m0 z r else(m,cC0 h F m0 z m cs)::bi3 h F m0 z r
def XS.frz (F:List Nm) (m0:Nm) (z:Nat) (s:XS):XS:=⟨s.t,bi3 s.h F m0 z s.h,s.nx⟩
end Go.Proofs.Xw
namespace Go.Proofs.Xw
open Go Go.Proofs.Aw Go.ChangeShapes Go.WideShapes
section
variable {H:Type} {enc:TypeId×Value->H} {P:Program}
def Good (enc:TypeId×Value->H) (P:Program) (t:TypeId) (F:World->List Value->Prop):Prop :=
 ∀(W:World) (n:Nat) (cs:List Value) (x:DataW H×List MemPlace),DataW.trod enc P W 0 (fun _=>true) true n t cs=some x->F W cs/\∀(W':World) (sp:Nat->Bool),(∀b,b<W.heap.size->W'.heap[b]? = W.heap[b]?)->(∀q∈x.2,sp q.block=true)->DataW.trod enc P W' 0 sp true n t cs=some x
theorem IU {d:Nat} {t:TypeId} {ks:List Kd} (h:qi P d t=some ks):Good enc P t (fun _ cs=>KS ks cs):=fun W n cs x hx=>by
 obtain⟨_,h2,h3⟩:=qW (enc:=enc) d n t ks h W 0 (fun _=>true) true cs x hx
 exact⟨h2,fun W' sp _ _=>h3 W' 0 sp true⟩
def b59 (P:Program) (e:TypeId) (F:World->List Value->Prop) (W:World) (cs:List Value):Prop :=
 ∃A len cap,cs=[.slice A len cap]/\len<=cap/\cap<=maxLen/\(0<len->∃a,A=some a/\a.block<W.heap.size/\∀r,r<len->∃ds,W.cells? 0 (a.add (r*P.cellsOf e)) (P.cellsOf e)=some ds/\F W ds)
theorem FB {t e:TypeId} {F:World->List Value->Prop} (hu:P.underlying t=some (.slice e)) (hz:0<P.cellsOf e) (hg:Good enc P e F):Good enc P t (b59 P e F):=fun W n cs x h=>by
 cases n with
 | zero=>simp[DataW.trod]at h
 | succ n =>
  simp only[DataW.trod_step]at h ⊢
  unfold DataW.trodStep at h ⊢
  rw[hu]at h
  simp only[hu]at h ⊢
  match cs,h with
  | [.slice none 0 0],h =>
   exact⟨⟨none,0,0,rfl,Nat.le_refl _,Nat.zero_le _,fun hh=>absurd hh (by omega)⟩,fun W' sp _ _=>h⟩
  | [.slice (some a) len cap],h =>
   simp only at h ⊢
   split at h
   ·rename_i hc
    obtain⟨elems,he,h⟩:=Option.bind_eq_some_iff.1 h
    obtain⟨rest,hr,rfl⟩:=Option.map_eq_some_iff.1 h
    simp only[if_true]at hr
    have one:∀i y,(W.cells? 0 (a.add (i*P.cellsOf e)) (P.cellsOf e)).bind (DataW.trod enc P W 0 (fun _=>true) true n e)=some y ->
      ∃ds,W.cells? 0 (a.add (i*P.cellsOf e)) (P.cellsOf e)=some ds/\F W ds/\∀(W':World) (sp:Nat->Bool),(∀b,b<W.heap.size->W'.heap[b]? = W.heap[b]?)->(∀q∈y.2,sp q.block=true)->DataW.trod enc P W' 0 sp true n e ds=some y:=fun i y hy=>by
     obtain⟨ds,h1,h2⟩:=Option.bind_eq_some_iff.1 hy
     obtain⟨g2,g3⟩:=hg W n ds y h2
     exact⟨ds,h1,g2,g3⟩
    refine⟨⟨some a,len,cap,rfl,hc.2.1,hc.2.2,fun hl=>⟨a,rfl,?_,fun r hr' => ?_⟩⟩,fun W' sp hW' hsp => ?_⟩
    ·obtain⟨y,hy⟩:=uJ he 0 (by simpa using hl)
     obtain⟨ds,h1,_⟩:=one 0 y hy
     have:=World.cells?_block h1 hz
     simpa [block_add]using this
    ·obtain⟨y,hy⟩:=uJ he r (by simpa using hr')
     obtain⟨ds,h1,h2,_⟩:=one r y hy
     exact⟨ds,h1,h2⟩
    ·rw[if_pos hc]
     have carry:∀i y,y∈elems++rest->(W.cells? 0 (a.add (i*P.cellsOf e)) (P.cellsOf e)).bind (DataW.trod enc P W 0 (fun _=>true) true n e)=some y ->
       (W'.cells? 0 (a.add (i*P.cellsOf e)) (P.cellsOf e)).bind (DataW.trod enc P W' 0 sp true n e)=some y:=fun i y hm hy=>by
      obtain⟨ds,h1,_,h3⟩:=one i y hy
      rw[Gj hW' hz h1]
      exact h3 W' sp hW' fun q hq=>hsp q (List.mem_append_right _ (List.mem_flatMap.2 ⟨y,hm,hq⟩))
     have e1:=mapM_carry (g:=fun i=>(W'.cells? 0 (a.add (i*P.cellsOf e)) (P.cellsOf e)).bind (DataW.trod enc P W' 0 sp true n e)) he fun i y _ hy' hy=>carry i y (List.mem_append_left _ hy') hy
     rw[e1]
     simp only[Option.bind_some]
     have e2:(if sp a.block=true then(List.range (cap-len)).mapM fun j=>(W'.cells? 0 (a.add ((len+j)*P.cellsOf e)) (P.cellsOf e)).bind (DataW.trod enc P W' 0 sp true n e)else some [])=some rest:=by
      have e3:=mapM_carry (g:=fun j=>(W'.cells? 0 (a.add ((len+j)*P.cellsOf e)) (P.cellsOf e)).bind (DataW.trod enc P W' 0 sp true n e)) hr fun j y _ hy' hy=>carry (len+j) y (List.mem_append_right _ hy') hy
      split
      ·exact e3
      ·rename_i hsa
       have hrl:rest.length=cap-len:=by
        have:=mapM_len hr
        simpa using this
       by_cases h0:cap-len=0
       ·rw[h0]at hrl
        rw[List.length_eq_zero_iff.1 hrl]
       ·exfalso
        apply hsa
        refine hsp (.cell a.block (a.off+0)) (List.mem_append_left _ (MemPlace.mem_row.2 ⟨0,?_,rfl⟩))
        exact Nat.mul_pos (by omega) hz
     rw[e2];rfl
   ·cases h
theorem XU {e:TypeId} {ks:List Kd} (hpos:0<ks.length) (hz:ks.length=P.cellsOf e) {W:World} {cs:List Value} (h:b59 P e (fun _ ds=>KS ks ds) W cs):∃v,cs=[v]/\Fits W (.sl ks) v/\CU (some v)<=maxLen:=by
 obtain⟨A,len,cap,rfl,hle,hm,hr⟩:=h
 refine⟨_,rfl,⟨hpos,A,len,cap,rfl,hle,fun hl => ?_⟩,Nat.le_trans hle hm⟩
 obtain⟨a,hA,hb,hr⟩:=hr hl
 refine⟨a,hA,hb,fun r hr' => ?_⟩
 obtain⟨ds,h1,h2⟩:=hr r hr'
 obtain⟨_,_,h4⟩:=World.cells?_some h1
 exact⟨ds,h2,fun k hk'=>by rw[hz];exact h4 k (by omega)⟩
def NK (W:World):List Nk->List Value->Prop
 | [],vs=>vs=[]
 | .f k::ks,vs=>∃v r,vs=v::r/\kOk k v/\NK W ks r
 | .r z _ kk::ks,vs=>∃v r,vs=v::r/\(Fits W (.sl kk) v/\CU (some v)<=maxLen/\z=kk.length)/\NK W ks r
theorem NK.flat {W:World}:∀{l:List Kd} {c:List Value},KS l c->NK W (l.map .f) c
 | [],_,h=>h
 | _::_,_,⟨v,r,e,hv,hr⟩=>⟨v,r,e,hv,NK.flat hr⟩
theorem NK.append {W:World}:∀{l m:List Nk} {c d:List Value},NK W l c->NK W m d->NK W (l++m) (c++d)
 | [],m,c,d,h,h'=>by simp only[NK]at h;subst h;exact h'
 | .f _::l,m,c,d,⟨v,r,e,hv,hr⟩,h'=>by subst e;exact⟨v,r++d,rfl,hv,NK.append hr h'⟩
 | .r _ _ _::l,m,c,d,⟨v,r,e,hv,hr⟩,h'=>by subst e;exact⟨v,r++d,rfl,hv,NK.append hr h'⟩
theorem NK.length {W:World}:∀{l:List Nk} {c:List Value},NK W l c->c.length=l.length
 | [],c,h=>by simp only[NK]at h;subst h;rfl
 | .f _::l,c,⟨v,r,e,_,hr⟩=>by subst e;simp[NK.length hr]
 | .r _ _ _::l,c,⟨v,r,e,_,hr⟩=>by subst e;simp[NK.length hr]
def O3 (P:Program) (p:Nat->TypeId->Option (List Nk)) (base:Nat):Nat->List Field->Option (List Nk)
 | _,[]=>some []
 | off,f::fs=>if f.offset=off then(p (base+off) f.type).bind fun l=>if l.length=P.cellsOf f.type then(O3 P p base (off+P.cellsOf f.type) fs).map fun r=>l++r else none else none
def Vk (P:Program) (S:Nat):Nat->Nat->TypeId->Option (List Nk)
 | 0,_,_=>none
 | d+1,off,t=>match qi P 8 t with
  | some l=>some (l.map .f)
  | none=>match P.underlying t with
   | some (.slice e)=>(match qi P 8 e with
    | some kk=>if 0<kk.length/\kk.length=P.cellsOf e then some [.r kk.length (S+off) kk]else none
    | none=>none)
   | some (.struct fs)=>(O3 P (Vk P S d) off 0 fs.toList).bind fun l=>if l.length=P.cellsOf t then some l else none
   | _=>none
theorem CB {W:World} {n:Nat} {cs:List Value} {p:Nat->TypeId->Option (List Nk)} {base:Nat} (hp:∀off t ks,p off t=some ks->Good enc P t (fun W cs=>NK W ks cs)):∀(fs:List Field) (off:Nat) (ks:List Nk) (xs:List (DataW H×List MemPlace)),O3 P p base off fs=some ks->fs.mapM (fun f=>DataW.trod enc P W 0 (fun _=>true) true n f.type ((cs.drop f.offset).take (P.cellsOf f.type)))=some xs ->
  NK W ks ((cs.drop off).take ks.length)/\∀(W':World) (sp:Nat->Bool),(∀b,b<W.heap.size->W'.heap[b]? = W.heap[b]?)->(∀q∈xs.flatMap (·.2),sp q.block=true)->fs.mapM (fun f=>DataW.trod enc P W' 0 sp true n f.type ((cs.drop f.offset).take (P.cellsOf f.type)))=some xs
 | [],off,ks,xs,h,hm=>by
  simp only[O3,Option.some.injEq]at h
  subst h
  simp at hm
  subst hm
  exact⟨by simp[NK],fun _ _ _ _=>rfl⟩
 | f::fs,off,ks,xs,h,hm=>by
  simp only[O3]at h
  split at h
  ·rename_i hoff
   obtain⟨l,hl,h⟩:=Option.bind_eq_some_iff.1 h
   split at h
   ·rename_i hlen
    obtain⟨ks',hk,rfl⟩:=Option.map_eq_some_iff.1 h
    simp only[List.mapM_cons,bind,Option.bind_eq_some_iff,pure,Option.some.injEq]at hm
    obtain⟨y,hy,ys,hys,rfl⟩:=hm
    obtain⟨a1,a2⟩:=hp _ _ l hl W n _ y hy
    obtain⟨b1,b2⟩:=CB hp fs _ ks' ys hk hys
    subst hoff
    refine⟨?_,fun W' sp hW hq => ?_⟩
    ·rw[List.length_append,xq,hlen]
     exact NK.append a1 b1
    ·have e1:=a2 W' sp hW fun q hq'=>hq q (by rw[List.flatMap_cons];exact List.mem_append_left _ hq')
     have e2:=b2 W' sp hW fun q hq'=>hq q (by rw[List.flatMap_cons];exact List.mem_append_right _ hq')
     simp only[List.mapM_cons,bind,e1,e2,Option.bind_some,pure]
   ·cases h
  ·cases h
theorem IV {S:Nat}:∀(d off:Nat) (t:TypeId) (ks:List Nk),Vk P S d off t=some ks->Good enc P t (fun W cs=>NK W ks cs)
 | 0,_,_,_,h=>by cases h
 | d+1,off,t,ks,h=>fun W n cs x hx=>by
  simp only[Vk]at h
  split at h
  ·rename_i l hl
   cases h
   obtain⟨g1,g2⟩:=IU (enc:=enc) hl W n _ x hx
   exact⟨NK.flat g1,g2⟩
  ·split at h
   ·rename_i e hu
    split at h
    ·rename_i kk hkk
     split at h
     ·rename_i hc
      cases h
      obtain⟨g1,g2⟩:=FB (enc:=enc) hu (by omega) (IU hkk) W n _ x hx
      obtain⟨v,hv,hf,hm⟩:=XU hc.1 hc.2 g1
      exact⟨by rw[hv];exact⟨v,[],rfl,⟨hf,hm,rfl⟩,rfl⟩,g2⟩
     ·cases h
    ·cases h
   ·rename_i fs hu
    obtain⟨l,hl,h⟩:=Option.bind_eq_some_iff.1 h
    split at h
    ·rename_i hlen
     cases h
     cases n with
     | zero=>simp[DataW.trod]at hx
     | succ n =>
      simp only[DataW.trod_step]at hx ⊢
      unfold DataW.trodStep at hx ⊢
      rw[hu]at hx
      simp only[hu]at hx ⊢
      split at hx
      ·rename_i hc
       obtain⟨xs,hxs,rfl⟩:=Option.map_eq_some_iff.1 hx
       obtain⟨b1,b2⟩:=CB (enc:=enc) (base:=off) (fun o t ks h=>IV d o t ks h) fs.toList 0 ks xs hl hxs
       refine⟨?_,fun W' sp hW hq => ?_⟩
       ·rw[List.drop_zero,List.take_of_length_le (by omega)]at b1
        exact b1
       ·rw[if_pos hc,b2 W' sp hW hq];rfl
      ·cases hx
    ·cases h
   ·cases h
end
end Go.Proofs.Xw
namespace Go.Proofs.Xw
open Go Go.Proofs.Aw Go.ChangeShapes Go.WideShapes
inductive Sh2 where
 | flat (ks:List Kd) (agg:Bool)
 | sl (ks:List Kd)
 | sn (ks:List Nk)
def iV:Nat:=9223372036854775808
def mZ (W:World) (vs:List Value) (zs:List Nat) (nz:Nat->Nat) (l k p:Nat):Option Value :=
 match rowCell W vs zs (l / 64-1) (l % 64) (p / iV)with
 | some (.slice (some a) _ _)=>W.cell? ((a.add (p % iV*nz l)).add k)
 | _=>none
def aD0 (r:Nat):Option Value->Int
 | some (.int _ n)=>n
 | some (.slice _ _ _)=>((r*iV:Nat):Int)
 | _=>0
def gQ (W:World) (cells vs:List Value) (zs:List Nat) (nz:Nat->Nat):Rho where
 i p:=XN cells[p]?
 b p:=CE cells[p]?
 s p:=JJ cells[p]?
 len j:=CU vs[j]?
 ci l k r:=if l<64 then(if k<1000 then aD0 r (rowCell W vs zs l k r)else((CU (rowCell W vs zs l (k-1000) r):Nat):Int))else XN (mZ W vs zs nz l k r)
 cb l k r:=if l<64 then CE (rowCell W vs zs l k r)else CE (mZ W vs zs nz l k r)
 cs l k r:=if l<64 then JJ (rowCell W vs zs l k r)else JJ (mZ W vs zs nz l k r)
 ct:=UB
def oQ:Nat->Nat->List Sh2->List X
 | _,_,[]=>[]
 | p,j,.flat ks true::r => .agg (canon p ks)::oQ (p+ks.length) (j+1) r
 | p,j,.flat ks false::r=>(canon p ks).headD .top::oQ (p+ks.length) (j+1) r
 | p,j,.sl ks::r => .rl ks.length (.len j) (.var j ks) false::oQ p (j+1) r
 | p,j,.sn ks::r => .rn ks.length (.len j) j ks false::oQ p (j+1) r
def lW:List Sh2->List Value->List Value
 | .flat _ _::r,v::vs=>v.cells.toList++lW r vs
 | .sl _::r,_::vs=>lW r vs
 | .sn _::r,_::vs=>lW r vs
 | _,_=>[]
def JP:Sh2->Nat
 | .flat _ _=>0
 | .sl ks=>ks.length
 | .sn ks=>ks.length
def CJ (W:World):Sh2->Value->Prop
 | .flat ks a,v=>Fits W (.flat ks a) v
 | .sl ks,v=>Fits W (.sl ks) v
 | .sn ks,v=>0<ks.length/\∃A len cap,v = .slice A len cap/\len<=cap/\(0<len->∃a,A=some a/\a.block<W.heap.size/\∀r,r<len->∃ds,NK W ks ds/\∀k,k<ks.length->W.cell? ((a.add (r*ks.length)).add k)=ds[k]?)
theorem sG {C:Ctx} {J:Rho} {l j B:Nat} {f:Nat->Option Value} (hi:∀k K n,k<B->f k=some (.int K n)->J.ci l k j=n) (hb:∀k n,k<B->f k=some (.bool n)->J.cb l k j=n) (hs:∀k n,k<B->f k=some (.string n)->J.cs l k j=n) :
  ∀(ks:List Kd) (k0:Nat) (cs:List Value),k0+ks.length<=B->KS ks cs->(∀k,k<ks.length->f (k0+k)=cs[k]?)->∀(k:Nat) (c:AV),(aW J l k0 ks j)[k]? = some c->∃u,f (k0+k)=some u/\Conc C c u
 | [],_,_,_,_,_,k,c,h=>by simp[aW]at h
 | kd::ks,k0,cs,hB,⟨v,r,e,hv,hr⟩,hc,k,c,h=>by
  subst e
  simp only[List.length_cons]at hB
  have h0:f k0=some v:=by have:=hc 0 (by simp);simpa using this
  have ih:=sG (C:=C) hi hb hs ks (k0+1) r (by omega) hr (fun k hk=>by
   have:=hc (k+1) (by simp;omega)
   rw[show k0+1+k=k0+(k+1)from by omega,this];rfl)
  have next:∀k c,(aW J l (k0+1) ks j)[k]? = some c->∃u,f (k0+(k+1))=some u/\Conc C c u:=fun k c h=>by
   obtain⟨u,hu,hcu⟩:=ih k c h
   exact⟨u,by rw[<-hu];congr 1;omega,hcu⟩
  cases kd with
  | i kk =>
   obtain⟨n,rfl,_⟩:=hv
   simp only[aW]at h
   cases k with
   | zero=>simp at h;subst h;exact⟨_,h0,by simp only[Conc,hi k0 kk n (by omega) h0]⟩
   | succ k=>exact next k c (by simpa using h)
  | b =>
   obtain⟨n,rfl⟩:=hv
   simp only[aW]at h
   cases k with
   | zero=>simp at h;subst h;exact⟨_,h0,by simp only[Conc,hb k0 n (by omega) h0]⟩
   | succ k=>exact next k c (by simpa using h)
  | s =>
   obtain⟨n,rfl,_⟩:=hv
   simp only[aW]at h
   cases k with
   | zero=>simp at h;subst h;exact⟨_,h0,by simp only[Conc,hs k0 n (by omega) h0]⟩
   | succ k=>exact next k c (by simpa using h)
section
variable {C:Ctx} {W:World} {cells vs:List Value} {zs:List Nat} {nz:Nat->Nat}
theorem ZL {l j:Nat} (hl:l<64) (k:Nat) (K:IntKind) (n:Int) (hk:k<1000) (h:rowCell W vs zs l k j=some (.int K n)):(gQ W cells vs zs nz).ci l k j=n:=by
 simp only[gQ,if_pos hl,if_pos hk,h,aD0]
theorem ZM {l j:Nat} (hl:l<64) (k:Nat) (n:Bool) (_:k<1000) (h:rowCell W vs zs l k j=some (.bool n)):(gQ W cells vs zs nz).cb l k j=n:=by
 simp only[gQ,if_pos hl,h,CE]
theorem ZK {l j:Nat} (hl:l<64) (k:Nat) (n:ByteArray) (_:k<1000) (h:rowCell W vs zs l k j=some (.string n)):(gQ W cells vs zs nz).cs l k j=n:=by
 simp only[gQ,if_pos hl,h,JJ]
theorem aE5 {l k0 j e len cap:Nat} {a:Addr} (hl:l<64) (hk:k0<64) (he:e<iV) (hr:rowCell W vs zs l k0 j=some (.slice (some a) len cap)) (k:Nat):mZ W vs zs nz (64*(l+1)+k0) k (e+j*iV)=W.cell? ((a.add (e*nz (64*(l+1)+k0))).add k):=by
 have hM:0<iV:=by decide
 have e1:(64*(l+1)+k0) / 64-1=l:=by omega
 have e2:(64*(l+1)+k0) % 64=k0:=by omega
 have e3:(e+j*iV) / iV=j:=by rw[Nat.add_mul_div_right _ _ hM,Nat.div_eq_of_lt he,Nat.zero_add]
 have e4:(e+j*iV) % iV=e:=by rw[Nat.add_mul_mod_self_right,Nat.mod_eq_of_lt he]
 simp only[mZ,e1,e2,e3,e4,hr]
theorem RD (hW:C.w=W) (hm:∀b,¬C.mt b) {l k0 j z:Nat} {kk:List Kd} {v:Value} (hl:l<64) (hk:k0<64) (hkk:kk.length<=1000) (hz:nz (64*(l+1)+k0)=z) (hv:rowCell W vs zs l k0 j=some v) (hf:Fits W (.sl kk) v) (hb:CU (some v)<=maxLen) (he:z=kk.length) :
  Conc C (.ro z (uu (gQ W cells vs zs nz) (64*(l+1)+k0) kk ((gQ W cells vs zs nz).ci l k0 j) ((gQ W cells vs zs nz).ci l (k0+1000) j)) false) v:=by
 obtain⟨hpos,A,len,cap,rfl,hle,hrows⟩:=hf
 have c1:(gQ W cells vs zs nz).ci l k0 j=((j*iV:Nat):Int):=by simp only[gQ,if_pos hl,if_pos (show k0<1000 by omega),hv,aD0]
 have c2:(gQ W cells vs zs nz).ci l (k0+1000) j=(len:Int):=by simp only[gQ,if_pos hl,if_neg (show ¬k0+1000<1000 by omega),Nat.add_sub_cancel,hv,CU]
 have hrl:(uu (gQ W cells vs zs nz) (64*(l+1)+k0) kk ((gQ W cells vs zs nz).ci l k0 j) ((gQ W cells vs zs nz).ci l (k0+1000) j)).length=len:=by simp[uu,c2]
 refine iw.2 ⟨A,cap,by rw[hrl],by rw[hrl];exact hle,fun h=>(nomatch h),fun hne => ?_⟩
 have hl0:0<len:=by
  rcases Nat.eq_zero_or_pos len with h | h
  ·exfalso;apply hne;apply List.length_eq_zero_iff.1;rw[hrl,h]
  ·exact h
 obtain⟨a,rfl,hb',hr⟩:=hrows hl0
 refine⟨a,rfl,by rw[hW];exact hb',hm _,ConcE.mk fun e row hrow => ?_⟩
 have hel:e<len:=by rw[<-hrl];exact(List.getElem?_eq_some_iff.1 hrow).1
 have hfar:e<iV:=by
  have:len<=maxLen:=hb
  have e1:maxLen=9223372036854775807:=rfl
  have e2:iV=9223372036854775808:=rfl
  omega
 have hrow':row=aW (gQ W cells vs zs nz) (64*(l+1)+k0) 0 kk (e+j*iV):=by
  unfold uu at hrow
  rw[List.getElem?_map,List.getElem?_range (by rw[c2];exact hel)]at hrow
  simp only[Option.map_some,Option.some.injEq]at hrow
  rw[<-hrow,c1]
  congr 1
 subst hrow'
 obtain⟨ds,hds,hc⟩:=hr e hel
 have nat:=aE5 (nz:=nz) hl hk hfar hv
 have n64:¬64*(l+1)+k0<64:=by omega
 refine⟨by rw[kE,he],ConcM.mk fun k c hkc => ?_⟩
 obtain⟨u,hu,hcu⟩:=sG (C:=C) (J:=gQ W cells vs zs nz) (l:=64*(l+1)+k0) (j:=e+j*iV) (B:=1000) (f:=fun k=>mZ W vs zs nz (64*(l+1)+k0) k (e+j*iV))
  (fun k K n _ h=>by simp only[gQ,if_neg n64,h,XN]) (fun k n _ h=>by simp only[gQ,if_neg n64,h,CE]) (fun k n _ h=>by simp only[gQ,if_neg n64,h,JJ])
  kk 0 ds (by omega) hds (fun k hk'=>by rw[Nat.zero_add,nat,hz,he];exact hc k hk') k c hkc
 rw[Nat.zero_add,nat,hz]at hu
 exact⟨u,by rw[hW,Nat.zero_add,Nat.zero_add];exact hu,hcu⟩
theorem uX (hW:C.w=W) (hm:∀b,¬C.mt b) {l j:Nat} (hl:l<64):∀(ks:List Nk) (k0:Nat) (ds:List Value),k0+ks.length<=1000->NK W ks ds->(∀k,k<ks.length->rowCell W vs zs l (k0+k) j=ds[k]?)->(∀(k:Nat) (z S:Nat) (kk:List Kd),ks[k]? = some (.r z S kk)->k0+k<64/\S=64*(l+1)+(k0+k)/\nz S=z/\kk.length<=1000) ->
  ∀(k:Nat) (c:AV),(dQ (gQ W cells vs zs nz) l k0 ks j)[k]? = some c->∃u,rowCell W vs zs l (k0+k) j=some u/\Conc C c u
 | [],_,_,_,_,_,_,k,c,h=>by simp[dQ]at h
 | .f kd::ks,k0,ds,hB,⟨v,r,e,hv,hr⟩,hc,hn,k,c,h=>by
  subst e
  simp only[List.length_cons]at hB
  have h0:rowCell W vs zs l k0 j=some v:=by have:=hc 0 (by simp);simpa using this
  cases k with
  | zero =>
   have hc1:(aW (gQ W cells vs zs nz) l k0 [kd] j)[0]? = some c:=by
    rw[<-h];cases kd<;>rfl
   exact sG (C:=C) (B:=1000) (f:=fun k=>rowCell W vs zs l k j) (ZL hl) (ZM hl) (ZK hl) [kd] k0 [v] (by simp;omega) ⟨v,[],rfl,hv,rfl⟩ (fun k hk=>by
    obtain rfl:k=0:=by simpa using hk
    exact h0) 0 c hc1
  | succ k =>
   obtain⟨u,hu,hcu⟩:=uX hW hm hl ks (k0+1) r (by omega) hr (fun k hk=>by
    have:=hc (k+1) (by simp;omega)
    rw[show k0+1+k=k0+(k+1)from by omega,this];rfl) (fun k z S kk hk=>by
    have:=hn (k+1) z S kk (by simpa using hk)
    rw[show k0+1+k=k0+(k+1)from by omega];exact this) k c (by simpa [dQ]using h)
   exact⟨u,by rw[<-hu];congr 1;omega,hcu⟩
 | .r z S kk::ks,k0,ds,hB,⟨v,r,e,⟨hf,hb,hz⟩,hr⟩,hc,hn,k,c,h=>by
  subst e
  simp only[List.length_cons]at hB
  have h0:rowCell W vs zs l k0 j=some v:=by have:=hc 0 (by simp);simpa using this
  cases k with
  | zero =>
   obtain⟨n0,n1,n2,n3⟩:=hn 0 z S kk rfl
   rw[Nat.add_zero]at n0
   simp only[dQ,List.getElem?_cons_zero,Option.some.injEq]at h
   subst h
   rw[Nat.add_zero]at n1
   subst n1
   exact⟨v,h0,RD hW hm hl n0 n3 n2 h0 hf hb hz⟩
  | succ k =>
   obtain⟨u,hu,hcu⟩:=uX hW hm hl ks (k0+1) r (by omega) hr (fun k hk=>by
    have:=hc (k+1) (by simp;omega)
    rw[show k0+1+k=k0+(k+1)from by omega,this];rfl) (fun k z S kk hk=>by
    have:=hn (k+1) z S kk (by simpa using hk)
    rw[show k0+1+k=k0+(k+1)from by omega];exact this) k c (by simpa [dQ]using h)
   exact⟨u,by rw[<-hu];congr 1;omega,hcu⟩
end
end Go.Proofs.Xw
