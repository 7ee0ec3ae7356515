/- Parts of the logic that the proof runs in, one behind the other. -/
import Derived.Test.YtpdfmnhgocpkcaaGreatXwK2
import Derived.Test.YtpdfmnhgocpkcaaGreatAwK2
import Derived.ChangeReads
import Derived.ChangeShapes
import Derived.RowKit
import Derived.RowKit3
import Derived.Handed
namespace Go.Proofs.Xw
open Go Go.Proofs.Aw
structure Sub where
 i:List (Nat×U)
 b:List (Nat×BE)
 s:List (Nat×TE)
def assoc {am:Type} (k:Nat):List (Nat×am)->Option am
 | []=>none
 | (j,v)::r=>if Nat.beq j k=true then some v else assoc k r
noncomputable def Sub.ap (V:Sub) (ρ:aa):aa :=
  { ρ with i:=fun k=>match assoc k V.i with | some e=>e.I ρ | none=>ρ.i k,
           b:=fun k=>match assoc k V.b with | some e=>e.I ρ | none=>ρ.b k,
           s:=fun k=>match assoc k V.s with | some e=>e.I ρ | none=>ρ.s k }
mutual
def U.pu (V:Sub):U->U
 | .lit n => .lit n
 | .var i=>match assoc i V.i with | some e=>e | none => .var i
 | .cl l k j => .cl l k (j.pu V)
 | .len l => .len l
 | .cm t=>tz (t.pu V)
 | .fJ t j=>GX (t.pu V) (j.pu V)
 | .op o k a b=>ia o k (a.pu V) (b.pu V)
 | .ite c a b=>lF (c.pu V) (a.pu V) (b.pu V)
 | .uf k j a => .uf k j (a.pu V)
def AL.pu (V:Sub):AL->AL
 | .nil => .nil
 | .i e r => .i (e.pu V) (r.pu V)
 | .b e r => .b (e.pu V) (r.pu V)
 | .s e r => .s (e.pu V) (r.pu V)
def BE.pu (V:Sub):BE->BE
 | .lit b => .lit b
 | .var i=>match assoc i V.b with | some e=>e | none => .var i
 | .cl l k j => .cl l k (j.pu V)
 | .lt a b=>mkLt (a.pu V) (b.pu V)
 | .eq a b=>mkEq (a.pu V) (b.pu V)
 | .seq a b=>mkSeq (a.pu V) (b.pu V)
 | .slt a b => .slt (a.pu V) (b.pu V)
 | .not a=>mkNot (a.pu V)
 | .and a b=>mkAnd (a.pu V) (b.pu V)
 | .or a b=>mkOr (a.pu V) (b.pu V)
 | .ite c a b=>iF (c.pu V) (a.pu V) (b.pu V)
def TE.pu (V:Sub):TE->TE
 | .lit s => .lit s
 | .var i=>match assoc i V.s with | some e=>e | none => .var i
 | .cl l k j => .cl l k (j.pu V)
 | .sub t a b => .sub (t.pu V) (a.pu V) (b.pu V)
 | .ite c a b=>GZ (c.pu V) (a.pu V) (b.pu V)
end
mutual
theorem U.bH (V:Sub) (ρ:aa):∀e:U,(e.pu V).I ρ=e.I (V.ap ρ)
 | .lit n=>rfl
 | .var i=>by
  simp only[U.pu,U.I,Sub.ap]
  cases h:assoc i V.i<;>simp only[U.I]
 | .cl l k j=>by simp only[U.pu,U.I,U.bH V ρ j];rfl
 | .len l=>rfl
 | .cm t=>by simp only[U.pu,yL,U.I,TE.bH V ρ t]
 | .fJ t j=>by simp only[U.pu,WD,U.I,TE.bH V ρ t,U.bH V ρ j]
 | .op o k a b=>by simp only[U.pu,oG,U.I,U.bH V ρ a,U.bH V ρ b]
 | .ite c a b=>by simp only[U.pu,tw,U.I,BE.bH V ρ c,U.bH V ρ a,U.bH V ρ b]
 | .uf _ _ a=>by simp only[U.pu,U.I,AL.bH V ρ a]
theorem AL.bH (V:Sub) (ρ:aa):∀e:AL,(e.pu V).I ρ=e.I (V.ap ρ)
 | .nil=>rfl
 | .i e r=>by simp only[AL.pu,AL.I,U.bH V ρ e,AL.bH V ρ r]
 | .b e r=>by simp only[AL.pu,AL.I,BE.bH V ρ e,AL.bH V ρ r]
 | .s e r=>by simp only[AL.pu,AL.I,TE.bH V ρ e,AL.bH V ρ r]
theorem BE.bH (V:Sub) (ρ:aa):∀e:BE,(e.pu V).I ρ=e.I (V.ap ρ)
 | .lit n=>rfl
 | .var i=>by
  simp only[BE.pu,BE.I,Sub.ap]
  cases h:assoc i V.b<;>simp only[BE.I]
 | .cl l k j=>by simp only[BE.pu,BE.I,U.bH V ρ j];rfl
 | .lt a b=>by simp only[BE.pu,hh,BE.I,U.bH V ρ a,U.bH V ρ b]
 | .eq a b=>by simp only[BE.pu,eX,BE.I,U.bH V ρ a,U.bH V ρ b]
 | .seq a b=>by simp only[BE.pu,Oc,BE.I,TE.bH V ρ a,TE.bH V ρ b]
 | .slt a b=>by simp only[BE.pu,BE.I,TE.bH V ρ a,TE.bH V ρ b]
 | .not a=>by simp only[BE.pu,eA,BE.I,BE.bH V ρ a]
 | .and a b=>by simp only[BE.pu,fQ,BE.I,BE.bH V ρ a,BE.bH V ρ b]
 | .or a b=>by simp only[BE.pu,oI,BE.I,BE.bH V ρ a,BE.bH V ρ b]
 | .ite c a b=>by simp only[BE.pu,kM,BE.I,BE.bH V ρ c,BE.bH V ρ a,BE.bH V ρ b]
theorem TE.bH (V:Sub) (ρ:aa):∀e:TE,(e.pu V).I ρ=e.I (V.ap ρ)
 | .lit n=>rfl
 | .var i=>by
  simp only[TE.pu,TE.I,Sub.ap]
  cases h:assoc i V.s<;>simp only[TE.I]
 | .cl l k j=>by simp only[TE.pu,TE.I,U.bH V ρ j];rfl
 | .sub t a b=>by simp only[TE.pu,TE.I,TE.bH V ρ t,U.bH V ρ a,U.bH V ρ b]
 | .ite c a b=>by simp only[TE.pu,WE,TE.I,BE.bH V ρ c,TE.bH V ρ a,TE.bH V ρ b]
end
def Sc.pu (V:Sub):Sc->Sc
 | .i k e => .i k (e.pu V)
 | .b e => .b (e.pu V)
 | .s e => .s (e.pu V)
 | .f n z => .f (n.pu V) (z.pu V)
 | .c n z m y => .c (n.pu V) (z.pu V) (m.pu V) (y.pu V)
theorem Sc.bH (V:Sub) (ρ:aa) (s:Sc):(s.pu V).I ρ=s.I (V.ap ρ):=by
 cases s<;>simp only[Sc.pu,Sc.I,U.bH,BE.bH,TE.bH]
def RL.pu (V:Sub):RL->RL
 | .var l ks => .var l ks
 | .one r => .one (r.map (Sc.pu V))
 | .app n a b => .app (n.pu V) (a.pu V) (b.pu V)
 | .drop n a => .drop (n.pu V) (a.pu V)
 | .eN i r a => .eN (i.pu V) (r.map (Sc.pu V)) (a.pu V)
 | .ite c a b => .ite (c.pu V) (a.pu V) (b.pu V)
theorem RL.wA (V:Sub) (ρ:aa):∀(l:RL) (j:Int),(l.pu V).row ρ j=l.row (V.ap ρ) j
 | .var l ks,j=>by
  simp only[RL.pu,RL.row]
  generalize j.toNat=m
  have:∀(ks:List Kd) (k:Nat),bR ρ l k ks m=bR (V.ap ρ) l k ks m:=fun ks=>by
   induction ks with
   | nil=>intro k;rfl
   | cons kd ks ih=>intro k;cases kd<;>simp only[bR,ih]<;>rfl
  exact this ks 0
 | .one r,j=>by
  simp only[RL.pu,RL.row,cd,List.map_map]
  congr 1
  funext s
  simp only[Function.comp,Sc.bH]
 | .app n a b,j=>by
  simp only[RL.pu,RL.row,RL.wA V ρ a,RL.wA V ρ b,U.bH]
 | .drop n a,j=>by simp only[RL.pu,RL.row,RL.wA V ρ a,U.bH]
 | .eN i r a,j=>by
  simp only[RL.pu,RL.row,RL.wA V ρ a,U.bH,cd,List.map_map]
  congr 2
  funext s
  simp only[Function.comp,Sc.bH]
 | .ite c a b,j=>by simp only[RL.pu,RL.row,RL.wA V ρ a,RL.wA V ρ b,BE.bH]
theorem aqA (V:Sub) (ρ:aa) (n:U) (l:RL):aX ρ (n.pu V) (l.pu V)=aX (V.ap ρ) n l:=by
 unfold aX
 rw[U.bH]
 congr 1
 funext j
 exact RL.wA V ρ l j
theorem SD (V:Sub) (ρ:aa) (l m:Nat):∀(ks:List Kd) (k:Nat),bR ρ l k ks m=bR (V.ap ρ) l k ks m
 | [],_=>rfl
 | kd::ks,k=>by cases kd<;>simp only[bR,SD V ρ l m ks (k+1)]<;>rfl
theorem Kf (V:Sub) (ρ:aa) (l m:Nat):∀(ks:List Nk) (k:Nat),dx ρ l k ks m=dx (V.ap ρ) l k ks m
 | [],_=>rfl
 | .f kd::ks,k=>by cases kd<;>simp only[dx,qB,Kf V ρ l m ks (k+1)]<;>rfl
 | .r z S kk::ks,k=>by
  simp only[dx,j0,Kf V ρ l m ks (k+1),SD V ρ S]
  rfl
theorem aqC (V:Sub) (ρ:aa) (n:U) (l:Nat) (ks:List Nk):fW ρ (n.pu V) l ks=fW (V.ap ρ) n l ks:=by
 unfold fW
 rw[U.bH]
 congr 1
 funext j
 exact Kf V ρ l j ks 0
theorem aqF (V:Sub) (ρ:aa) (z:Nat) (m:U) (t:Nat):bN ρ z (m.pu V) t=bN (V.ap ρ) z m t:=by
 unfold bN
 rw[U.bH]
 rfl
def Aa (V:Sub):List (BE×Nat)->List (BE×Nat)
 | []=>[]
 | (c,o)::r=>(c.pu V,o)::Aa V r
theorem Km (V:Sub) (ρ:aa) (d:Nat):∀aG,choose ρ (Aa V aG) d=choose (V.ap ρ) aG d
 | []=>rfl
 | (c,o)::r=>by simp only[Aa,choose,BE.bH,Km V ρ d r]
mutual
def X.pu (V:Sub):X->X
 | .top => .top
 | .k v => .k v
 | .sc s => .sc (s.pu V)
 | .agg cs => .agg (X.p6 V cs)
 | .tup cs => .tup (X.p6 V cs)
 | .ptr n aG d => .ptr n (Aa V aG) d
 | .sl n z off len own => .sl n z off len own
 | .ip cs aG d => .ip (X.p6 V cs) (Aa V aG) d
 | .ro z D full => .ro z (X.y0 V D) full
 | .rl z n l full => .rl z (n.pu V) (l.pu V) full
 | .rn z n l ks full => .rn z (n.pu V) l ks full
 | .tk z m t D => .tk z (m.pu V) t (X.y0 V D)
 | .tq z m t D full => .tq z (m.pu V) t (X.y0 V D) full
 | .cQ t o j => .cQ t o (j.pu V)
 | .fn f xs ys => .fn f (X.p6 V xs) (X.p6 V ys)
 | .gd c x => .gd (c.pu V) (x.pu V)
 | .rows z n l => .rows z (n.pu V) (l.pu V)
 | .slv n z o l w => .slv n z (o.pu V) (l.pu V) w
 | .dz n z j o => .dz n z (j.pu V) o
def X.p6 (V:Sub):List X->List X
 | []=>[]
 | x::xs=>x.pu V::X.p6 V xs
def X.y0 (V:Sub):List (List X)->List (List X)
 | []=>[]
 | e::D=>X.p6 V e::X.y0 V D
end
mutual
theorem X.bH (V:Sub) (ρ:aa):∀x:X,(x.pu V).I ρ=x.I (V.ap ρ)
 | .top=>rfl
 | .k v=>rfl
 | .sc s=>by simp only[X.pu,X.I,Sc.bH]
 | .agg cs=>by simp only[X.pu,X.I,X.tH V ρ cs]
 | .tup cs=>by simp only[X.pu,X.I,X.tH V ρ cs]
 | .ptr n aG d=>by simp only[X.pu,X.I,Km]
 | .sl n z off len own=>rfl
 | .ip cs aG d=>by simp only[X.pu,X.I,X.tH V ρ cs,Km]
 | .ro z D full=>by simp only[X.pu,X.I,X.Pu V ρ D]
 | .rl z n l full=>by simp only[X.pu,X.I,aqA]
 | .rn z n l ks full=>by simp only[X.pu,X.I,aqC]
 | .tk z m t D=>by simp only[X.pu,X.I]
 | .tq z m t D full=>by simp only[X.pu,X.I,aqF,X.Pu V ρ D]
 | .cQ t o j=>by simp only[X.pu,X.I,U.bH];rfl
 | .fn f xs ys=>by simp only[X.pu,X.I,X.tH V ρ xs,X.tH V ρ ys]
 | .gd c x=>by simp only[X.pu,X.I,BE.bH,X.bH V ρ x]
 | .rows z n l=>by simp only[X.pu,X.I]
 | .slv n z o l w=>by simp only[X.pu,X.I,U.bH]
 | .dz n z j o=>by simp only[X.pu,X.I,U.bH]
theorem X.tH (V:Sub) (ρ:aa):∀x:List X,X.af ρ (X.p6 V x)=X.af (V.ap ρ) x
 | []=>rfl
 | x::xs=>by simp only[X.p6,X.af,X.bH V ρ x,X.tH V ρ xs]
theorem X.Pu (V:Sub) (ρ:aa):∀x:List (List X),X.a7 ρ (X.y0 V x)=X.a7 (V.ap ρ) x
 | []=>rfl
 | x::xs=>by simp only[X.y0,X.a7,X.tH V ρ x,X.Pu V ρ xs]
end
mutual
def X.fit:X->X->Sub->Option Sub
 | .sc (.i kk (.var i)),.sc (.i V3 e),V=>if mw kk V3=true then some { V with i:=(i,e)::V.i }else none
 | .sc (.b (.var i)),.sc (.b e),V=>some { V with b:=(i,e)::V.b }
 | .sc (.s (.var i)),.sc (.s e),V=>some { V with s:=(i,e)::V.s }
 | .sc (.c (.var i) _ (.var j) _),.sc (.c e _ f _),V=>some { V with i:=(i,e)::(j,f)::V.i }
 | .agg cs,.agg ds,V=>X.A7 cs ds V
 | .tup cs,.tup ds,V=>X.A7 cs ds V
 | .ro z D _,.ro z' ds _,V=>if Nat.beq z z'=true then X.T8 D ds V else none
 | _,_,V=>some V
def X.A7:List X->List X->Sub->Option Sub
 | [],[],V=>some V
 | a::aG,b::bs,V=>match X.fit a b V with
  | some V=>X.A7 aG bs V
  | none=>none
 | _,_,_=>none
def X.T8:List (List X)->List (List X)->Sub->Option Sub
 | [],[],V=>some V
 | a::aG,b::bs,V=>match X.A7 a b V with
  | some V=>X.T8 aG bs V
  | none=>none
 | _,_,_=>none
end
def X.DK:X->X
 | .ro z D _ => .ro z D false
 | .rl z n l _ => .rl z n l false
 | .rn z n l ks _ => .rn z n l ks false
 | .tq z m t D _ => .tq z m t D false
 | x=>x
theorem atl {ρ:aa} {C:Ctx} (x:X) {Y:Value} (h:ak C (x.I ρ) Y):ak C (x.DK.I ρ) Y:=by
 cases x<;>first | exact h | (simp only[X.DK,X.I]at h ⊢;exact H8 (f':=false) (fun h=>(nomatch h)) h)
theorem Q1 {ρ:aa} (C:Ctx):∀(l:List X) (vs:List Value),aD C (X.af ρ l) vs->aD C (X.af ρ (l.map X.DK)) vs
 | [],_,h=>h
 | x::xs,_,⟨Y,us,e,A,E⟩=>⟨Y,us,e,atl x A,Q1 C xs us E⟩
def C2:BE->BE
 | .and a b=>mkAnd (C2 a) (C2 b)
 | a=>a
theorem PA (ρ:aa):∀a:BE,(C2 a).I ρ=a.I ρ
 | .and a b=>by simp only[C2,fQ,PA ρ a,PA ρ b,BE.I]
 | .lit _ | .var _ | .cl _ _ _ | .lt _ _ | .eq _ _ | .seq _ _ | .slt _ _ | .not _ | .or _ _ | .ite _ _ _=>rfl
structure Sm where
 f:Nat
 pat:List X
 r:X
 pre:BE
def c9 (P:Program) (s:Sm):Prop:=cj P s.f=true/\∀(ρ:aa) (n:Nat) (h:Hp),s.pre.I ρ=true->CY P n s.f (X.af ρ s.pat) h (s.r.I ρ) []
def aaz (args:List X) (s:Sm):Option (BE×X) :=
 let args:=args.map X.DK
 match X.A7 s.pat args ⟨[],[],[]⟩with
 | some V=>if X.fc (X.p6 V s.pat) args=true then some (C2 (s.pre.pu V),s.r.pu V)else none
 | none=>none
def Ci (f:Nat) (args:List X):List Sm->Option (BE×X)
 | []=>none
 | s::l=>if Nat.beq s.f f=true then(match aaz args s with
  | some r=>some r
  | none=>Ci f args l)else Ci f args l
theorem NT {P:Program} {ρ:aa} {n:Nat} {h:Hp} {f:Nat} {args:List X} {c:BE} {r:X}:∀{l:List Sm},(∀s∈l,c9 P s)->Ci f args l=some (c,r)->cj P f=true/\(c.I ρ=true->CY P n f (X.af ρ args) h (r.I ρ) [])
 | [],_,O=>by cases O
 | s::l,hs,O=>by
  have cB:∀s∈l,c9 P s:=fun t ht=>hs t (List.mem_cons_of_mem _ ht)
  simp only[Ci]at O
  split at O
  ·rename_i hf
   have hf:=Nat.eq_of_beq_eq_true hf
   split at O
   ·rename_i r' hu
    cases O
    obtain⟨A,E⟩:=hs s List.mem_cons_self
    unfold aaz at hu
    simp only at hu
    split at hu
    ·rename_i V _
     split at hu
     ·rename_i hb
      cases hu
      have hb:=X.gv _ _ hb
      have:=E (V.ap ρ) n h
      rw[hf]at this A
      refine⟨A,fun H => ?_⟩
      rw[PA,BE.bH]at H
      have:=this H
      rw[<-X.tH,<-X.bH,hb]at this
      exact fun C vs W hL hn=>this C vs W (Q1 C args vs hL) hn
     ·cases hu
    ·cases hu
   ·exact NT cB O
  ·exact NT cB O
theorem Zl (ρ:aa) (r:List Sc):∀x∈cd ρ r,∃v,x=AV.sc v:=fun x hx=>by
 obtain⟨s,_,rfl⟩:=List.mem_map.1 hx
 exact⟨_,rfl⟩
theorem ES (ρ:aa) (l j:Nat):∀(ks:List Kd) (k:Nat),∀x∈bR ρ l k ks j,∃v,x=AV.sc v
 | [],_,x,hx=>by simp[bR]at hx
 | .i _::ks,k,x,hx=>by
  simp only[bR,List.mem_cons]at hx
  rcases hx with rfl | hx
  ·exact⟨_,rfl⟩
  ·exact ES ρ l j ks (k+1) x hx
 | .b::ks,k,x,hx=>by
  simp only[bR,List.mem_cons]at hx
  rcases hx with rfl | hx
  ·exact⟨_,rfl⟩
  ·exact ES ρ l j ks (k+1) x hx
 | .s::ks,k,x,hx=>by
  simp only[bR,List.mem_cons]at hx
  rcases hx with rfl | hx
  ·exact⟨_,rfl⟩
  ·exact ES ρ l j ks (k+1) x hx
theorem wD (ρ:aa):∀(l:RL) (j:Int),∀x∈l.row ρ j,∃v,x=AV.sc v
 | .var l ks,j=>ES ρ l _ ks 0
 | .one r,j=>Zl ρ r
 | .app n a b,j=>by
  simp only[RL.row]
  split
  ·exact wD ρ a _
  ·exact wD ρ b _
 | .drop n a,j=>wD ρ a _
 | .eN i r a,j=>by
  simp only[RL.row]
  split
  ·exact Zl ρ r
  ·exact wD ρ a _
 | .ite c a b,j=>by
  simp only[RL.row]
  split
  ·exact wD ρ a _
  ·exact wD ρ b _
def O3 (z:Nat) (D:List (List X)):Bool:=D.all fun e=>Nat.beq e.length z&&(X.lJ e&&e.all X.one)
def Ko (B:J) (z:Nat):X->Bool
 | .ro z' [] _=>Nat.beq z' z
 | .rl z' n _ _=>Nat.beq z' z&&(match red B (mkEq n (.lit 0))with | .lit true=>true | _=>false)
 | _=>false
theorem ad1 {ρ:aa} {B:J} (u:J.ok ρ B) {z:Nat} {x:X} (h:Ko B z x=true):∃full,x.I ρ = .ro z [] full:=by
 unfold Ko at h
 split at h
 ·rw[Nat.eq_of_beq_eq_true h];exact⟨_,rfl⟩
 ·rename_i n _ _
  simp only[Bool.and_eq_true]at h
  obtain⟨A,E⟩:=h
  have A:=Nat.eq_of_beq_eq_true A
  subst A
  split at E
  ·rename_i e
   have hr:=dc u (mkEq n (.lit 0))
   rw[e,eX]at hr
   have hr:n.I ρ=0:=eq_of_beq (show(n.I ρ==0)=true from hr.symm)
   have e0:∀l,aX ρ n l=[]:=fun l=>by unfold aX;rw[hr];rfl
   exact⟨_,by simp only[X.I,e0];rfl⟩
  ·cases E
 ·cases h
def GG (f:Nat) (args:List X) (B:J):List (Nat×Nat)->Option X
 | []=>none
 | (g,z)::l=>if Nat.beq g f=true then(match args with
  | [x]=>if Ko B z x=true then some (.ro z [] false)else none
  | _=>none)else GG f args B l
theorem Wd {P:Program} {ρ:aa} {B:J} (u:J.ok ρ B) {n f:Nat} {args:List X} {h:Hp} {r:X}:∀{l:List (Nat×Nat)},(∀k∈l,uz P k)->GG f args B l=some r->cj P f=true/\CY P n f (X.af ρ args) h (r.I ρ) []
 | [],_,hq=>by cases hq
 | (g,z)::l,H,hq=>by
  simp only[GG]at hq
  split at hq
  ·rename_i hf
   have hf:=Nat.eq_of_beq_eq_true hf
   subst hf
   split at hq
   ·rename_i x
    split at hq
    ·rename_i hx
     cases hq
     obtain⟨full,e⟩:=ad1 u hx
     obtain⟨g1,g2⟩:=H _ List.mem_cons_self
     refine⟨g1,?_⟩
     simp only[X.af,e]
     exact g2 full n h
    ·cases hq
   ·cases hq
  ·exact Wd u (fun k aJ=>H k (List.mem_cons_of_mem _ aJ)) hq
structure cr where
 c:jr
 sm:List Sm
 hf:List Nat
def rC (n:Nat):List Nat->Bool
 | []=>false
 | k::l=>Nat.beq k n||rC n l
mutual
def X.plain:X->Bool
 | .top | .k _ | .sc _ | .rows _ _ _=>true
 | .agg cs | .tup cs=>X.HI cs
 | .gd _ x=>x.plain
 | .ro _ [] _=>true
 | _=>false
def X.HI:List X->Bool
 | []=>true
 | x::xs=>x.plain&&X.HI xs
end
mutual
theorem X.Pj (ρ:aa):∀x:X,x.plain=true->HH (x.I ρ)=true
 | .top,_=>rfl
 | .k _,_=>rfl
 | .sc _,_=>rfl
 | .rows _ _ _,_=>rfl
 | .agg cs,h=>X.Ph ρ cs h
 | .tup cs,h=>X.Ph ρ cs h
 | .gd c x,h=>by
  simp only[X.I]
  split
  ·exact X.Pj ρ x h
  ·rfl
 | .ptr _ _ _,h=>by cases h
 | .sl _ _ _ _ _,h=>by cases h
 | .ip _ _ _,h=>by cases h
 | .ro _ [] _,_=>rfl
 | .ro _ (_::_) _,h=>by cases h
 | .rl _ _ _ _,h=>by cases h
 | .rn _ _ _ _ _,h=>by cases h
 | .tk _ _ _ _,h=>by cases h
 | .tq _ _ _ _ _,h=>by cases h
 | .cQ _ _ _,h=>by cases h
 | .fn _ _ _,h=>by cases h
 | .slv _ _ _ _ _,h=>by cases h
 | .dz _ _ _ _,h=>by cases h
theorem X.Ph (ρ:aa):∀l:List X,X.HI l=true->wy (X.af ρ l)=true
 | [],_=>rfl
 | x::xs,h=>by
  simp only[X.HI,Bool.and_eq_true]at h
  simp only[X.af,wy,X.Pj ρ x h.1,X.Ph ρ xs h.2,Bool.and_self]
end
def YD:Rows->Bool
 | .c D=>X.we D
 | .r _ _=>true
theorem aqE {ρ:aa} {r:Rows} (h:YD r=true):cw (fun _=>false) (r.I ρ)=true:=by
 cases r with
 | c D=>exact X.CA ρ D h
 | r n l=>exact rI
def Fu (h : av) (B : J) (z : Nat) (x : X) : T X := if Nat.blt 0 z = true then (E6 h B z x).bind B fun _ r => if YD r = true then .ret (r.ro z) else .fail ["frz"] else .fail ["frz"]
def hl (z:Nat) (off len:U) (z':Nat) (k:U) (D:List (List X)):Bool:=Nat.blt 0 z&&(Nat.beq z' z&&(off.beq (.lit 0)&&(len.beq (mkAdd k (.lit D.length))&&(k.nn&&(D.all (fun e=>Nat.beq e.length z)&&X.we D)))))
def Be (h:av) (B:J) (x:X):T X :=
 if x.nn=true then .ret x else match x with
  | .slv m z off len own=>match bl h m with
   | some [.tk z' k t D] => if hl z off len z' k D = true then .ret (.tq z k t D false) else .fail ["frz"]
   | _=>Fu h B z (.slv m z off len own)
  | .sl m z off len own=>Fu h B z (.sl m z off len own)
  | _ => .ret .top
theorem Uj {ρ:aa} {h:av} {B:J} (u:J.ok ρ B) {z:Nat} {x y:X} (hs:(Fu h B z x).aq ρ=some y):0<z/\∃fs,ez (aK ρ h) z (x.I ρ)=some fs/\cw (fun _=>false) fs=true/\y.I ρ = .ro z fs false:=by
 unfold Fu at hs
 split at hs
 ·rename_i hz
  obtain⟨_,r,aJ,A,E⟩:=T.cZ _ u hs
  split at E
  ·rename_i hn
   cases E
   exact⟨by simpa [Nat.blt_eq]using hz,_,TH u A,aqE hn,Rows.Yq ρ z r⟩
  ·cases E
 ·cases hs
theorem aft {ρ:aa} {h:av} {m:Nm} {z:Nat} {off len:U} {own:Bool} {z':Nat} {k:U} {t:Nat} {D:List (List X)} (Z:bl h m=some [.tk z' k t D]) (H:hl z off len z' k D=true):so (aK ρ h) ((X.slv m z off len own).I ρ) ((X.tq z k t D false).I ρ):=by
 simp only[hl,Bool.and_eq_true,Nat.blt_eq]at H
 obtain⟨g1,g2,g3,g4,g5,g6,g7⟩:=H
 have g2:=Nat.eq_of_beq_eq_true g2
 have g3:=U.beq_eq _ _ g3
 have g4:=U.beq_eq _ _ g4
 subst g2 g3 g4
 have k0:=U.kP ρ k g5
 have hT:(bN ρ z' k t).length=(k.I ρ).toNat:=by unfold bN;rw[List.length_map,List.length_range]
 have hE:(X.a7 ρ D).length=D.length:=by simp[X.eH]
 have O:(bN ρ z' k t++X.a7 ρ D).length=(k.I ρ).toNat+D.length:=by rw[List.length_append,hT,hE]
 have hn:((mkAdd k (.lit D.length)).I ρ).toNat=(k.I ρ).toNat+D.length:=by rw[fo];simp only[U.I];omega
 refine .inr ⟨m,z',0,(k.I ρ).toNat+D.length,own,bN ρ z' k t++X.a7 ρ D,?_,g1,?_,Cz rJ (X.CA ρ D g7),rfl⟩
 ·simp only[X.I,hn,U.I,Int.toNat_zero,Nat.zero_mul]
 ·have hZ:(bN ρ z' k t++X.a7 ρ D).flatten.length=((k.I ρ).toNat+D.length)*z':=by
   rw[gY _ (fun j e h=>QL g6 j e h),O]
  have ae:ae (aK ρ h) m=some (bN ρ z' k t++X.a7 ρ D).flatten:=by rw[cL,Z];rfl
  simp only[X.I,hn,U.I,Int.toNat_zero,Nat.zero_mul,ez,ae,Option.bind_some]
  rw[if_pos ⟨trivial,by rw[hZ,Nat.zero_add];exact Nat.le_refl _⟩,List.drop_zero,Ay _ _ (fun j e h=>QL g6 j e h) (by rw[O];exact Nat.le_refl _),List.take_of_length_le (by rw[O];exact Nat.le_refl _)]
theorem LV {ρ:aa} {h:av} {B:J} (u:J.ok ρ B) {x y:X} (hs:(Be h B x).aq ρ=some y)   : so (aK ρ h) (x.I ρ) (y.I ρ):=by
 unfold Be at hs
 split at hs
 ·rename_i hn
  cases hs
  exact .inl (.inr ⟨rfl,X.kP ρ _ hn⟩)
 ·split at hs
  ·split at hs
   ·rename_i Z
    split at hs
    ·rename_i H
     cases hs
     exact aft Z H
    ·cases hs
   ·obtain⟨h0,fs,A,E,h3⟩:=Uj u hs
    exact .inr ⟨_,_,_,_,_,_,rfl,h0,A,E,h3⟩
  ·obtain⟨h0,fs,A,E,h3⟩:=Uj u hs
   exact .inr ⟨_,_,_,_,_,_,rfl,h0,A,E,h3⟩
  ·cases hs
   exact .inl (.inl rfl)
def xP (h:av) (B:J):List X->T (List X)
 | [] => .ret []
 | x::xs=>(Be h B x).bind B fun B y=>(xP h B xs).bind B fun _ ys => .ret (y::ys)
theorem Ft {ρ:aa} {h:av}:∀{xs ys:List X} {B:J},J.ok ρ B->(xP h B xs).aq ρ=some ys->lZ (aK ρ h) (X.af ρ xs) (X.af ρ ys)
 | [],ys,B,_,hs=>by cases hs;rfl
 | x::xs,ys,B,u,hs=>by
  simp only[xP]at hs
  obtain⟨f0,y,bt,A,hs⟩:=T.cZ _ u hs
  obtain⟨_,zs,_,E,hs⟩:=T.cZ _ bt hs
  cases hs
  exact⟨_,_,rfl,LV u A,Ft bt E⟩
def Fv (h:av) (B:J) (x:X):T X:=match x with
 | .ptr m aG d=>match bl h m with
  | some cs => if b0 cs = true then .fail ["frz"] else (xP h B cs).bind B fun _ ys => .ret (.ip ys aG d)
  | none => .fail ["frz"]
 | .agg cs=>(xP h B cs).bind B fun _ ys => .ret (.agg ys)
 | x=>Be h B x
theorem Uk {ρ:aa} {h:av} {B:J} (u:J.ok ρ B) {x y:X} (hs:(Fv h B x).aq ρ=some y):Ed (aK ρ h) (x.I ρ) (y.I ρ):=by
 unfold Fv at hs
 split at hs
 ·split at hs
  ·rename_i cs Z
   split at hs
   ·cases hs
   ·rename_i hr
    obtain⟨_,ys,_,A,E⟩:=T.cZ _ u hs
    cases E
    refine .inr (.inl ⟨_,_,X.af ρ cs,X.af ρ ys,rfl,?_,Ft u A,rfl⟩)
    rw[cL,Z,Option.map_some,cR (by simpa using hr)]
  ·cases hs
 ·obtain⟨_,ys,_,A,E⟩:=T.cZ _ u hs
  cases E
  exact .inr (.inr ⟨_,_,rfl,Ft u A,rfl⟩)
 ·exact .inl (LV u hs)
def Bb (h:av) (B:J):List X->T (List X)
 | [] => .ret []
 | x::xs=>(Fv h B x).bind B fun B y=>(Bb h B xs).bind B fun _ ys => .ret (y::ys)
theorem LS {ρ:aa} {h:av}:∀{xs ys:List X} {B:J},J.ok ρ B->(Bb h B xs).aq ρ=some ys->w3 (aK ρ h) (X.af ρ xs) (X.af ρ ys)
 | [],ys,B,_,hs=>by cases hs;rfl
 | x::xs,ys,B,u,hs=>by
  simp only[Bb]at hs
  obtain⟨f0,y,bt,A,hs⟩:=T.cZ _ u hs
  obtain⟨_,zs,_,E,hs⟩:=T.cZ _ bt hs
  cases hs
  exact⟨_,_,rfl,Uk u A,LS bt E⟩
def LU (h:av) (B:J) (x:X):T X:=match x with
 | .fn f xs ys=>(Bb h B xs).bind B fun B us=>(Bb h B ys).bind B fun _ vs => .ret (.fn f us vs)
 | x=>Fv h B x
theorem afu {ρ:aa} {h:av} {B:J} (u:J.ok ρ B) {x y:X} (hs:(LU h B x).aq ρ=some y):JB (aK ρ h) (x.I ρ) (y.I ρ):=by
 unfold LU at hs
 split at hs
 ·obtain⟨f0,us,bt,A,hs⟩:=T.cZ _ u hs
  obtain⟨_,vs,_,E,hs⟩:=T.cZ _ bt hs
  cases hs
  exact .inr ⟨_,_,_,_,_,rfl,LS u A,LS bt E,rfl⟩
 ·exact .inl (Uk u hs)
def vb (h:av) (B:J):List X->T (List X)
 | [] => .ret []
 | x::xs=>(LU h B x).bind B fun B y=>(vb h B xs).bind B fun _ ys => .ret (y::ys)
theorem Bc {ρ:aa} {h:av}:∀{xs ys:List X} {B:J},J.ok ρ B->(vb h B xs).aq ρ=some ys->w2 (aK ρ h) (X.af ρ xs) (X.af ρ ys)
 | [],ys,B,_,hs=>by cases hs;rfl
 | x::xs,ys,B,u,hs=>by
  simp only[vb]at hs
  obtain⟨f0,y,bt,A,hs⟩:=T.cZ _ u hs
  obtain⟨_,zs,_,E,hs⟩:=T.cZ _ bt hs
  cases hs
  exact⟨_,_,rfl,afu u A,Bc bt E⟩
mutual
def X.own (n:Nat):X->Bool
 | .top | .k _ | .sc _ | .rows _ _ _=>true
 | .agg cs | .tup cs=>X.wu n cs
 | .gd _ x=>x.own n
 | .ptr m _ _=>Nat.beq m.1 n
 | .sl m _ _ _ _=>Nat.beq m.1 n
 | .slv m _ _ _ _=>Nat.beq m.1 n
 | .ro _ [] _=>true
 | _=>false
def X.wu (n:Nat):List X->Bool
 | []=>true
 | x::xs=>x.own n&&X.wu n xs
end
mutual
theorem X.HE (ρ:aa) (n:Nat):∀x:X,x.own n=true->wq n (x.I ρ)=true
 | .top,_=>rfl
 | .k _,_=>rfl
 | .sc _,_=>rfl
 | .rows _ _ _,_=>rfl
 | .agg cs,h=>X.HD ρ n cs h
 | .tup cs,h=>X.HD ρ n cs h
 | .gd c x,h=>by
  simp only[X.I]
  split
  ·exact X.HE ρ n x h
  ·rfl
 | .ptr _ _ _,h=>h
 | .sl _ _ _ _ _,h=>h
 | .slv _ _ _ _ _,h=>h
 | .ip _ _ _,h=>by cases h
 | .ro _ [] _,_=>rfl
 | .ro _ (_::_) _,h=>by cases h
 | .rl _ _ _ _,h=>by cases h
 | .rn _ _ _ _ _,h=>by cases h
 | .tk _ _ _ _,h=>by cases h
 | .tq _ _ _ _ _,h=>by cases h
 | .cQ _ _ _,h=>by cases h
 | .fn _ _ _,h=>by cases h
 | .dz _ _ _ _,h=>by cases h
theorem X.HD (ρ:aa) (n:Nat):∀l:List X,X.wu n l=true->jV n (X.af ρ l)=true
 | [],_=>rfl
 | x::xs,h=>by
  simp only[X.wu,Bool.and_eq_true]at h
  simp only[X.af,jV,X.HE ρ n x h.1,X.HD ρ n xs h.2,Bool.and_self]
end
theorem XN {n:Nat}:∀{l:List AV},(∀x∈l,∃v,x = .sc v)->jV n l=true
 | [],_=>rfl
 | x::l,h=>by
  obtain⟨v,rfl⟩:=h x List.mem_cons_self
  simp only[jV,wq,XN fun y hy=>h y (List.mem_cons_of_mem _ hy),Bool.and_self]
theorem aet (ρ:aa) (n:Nat) (cs:List X) (h:X.wu n cs=true):jV n (aB ρ cs)=true:=by
 unfold aB
 split
 ·rename_i z m l
  refine XN fun x hx => ?_
  obtain⟨r,hr,hx⟩:=List.mem_flatten.1 hx
  obtain⟨j,_,rfl⟩:=List.mem_map.1 hr
  exact wD ρ l j x hx
 ·simp[X.wu,X.own]at h
 ·exact X.HD ρ n cs h
def Pb (n:Nat) (d:aN):Bool:=d.all fun q=>Nat.beq q.1.1 n&&(match q.2 with | some cs=>X.wu n cs | none=>false)
theorem XO (ρ:aa) {n:Nat} {d:aN} (h:Pb n d=true):O' n (bn ρ d):=fun q hq=>by
 obtain⟨p,hp,rfl⟩:=List.mem_map.1 hq
 have h:=List.all_eq_true.1 h p hp
 rw[Bool.and_eq_true]at h
 obtain⟨A,E⟩:=h
 refine⟨Nat.eq_of_beq_eq_true A,?_⟩
 cases ho:p.2 with
 | none=>rw[ho]at E;cases E
 | some cs =>
  rw[ho]at E
  exact⟨aB ρ cs,by rw[Option.map_some],aet ρ n cs E⟩
def FN (c:cr) (call:bI) (n f:Nat) (args:List X) (B:J):T (X×aN):=match yz n f args [] c.c.kh with
 | some p => .ret p
 | none=>vf c.c call n f args [] B
def stepG (c:cr) (call:bI) (n f:Nat) (args:List X) (h:av) (B:J):T (X×aN) :=
 (vb h B args).bind B fun B ys => (FN c call n f ys B).bind B fun _ p => if (p.1.own n && Pb n p.2) = true then .ret p else .fail ["own"]
def H6 (h:av) (B:J) (x:X):T X:=match x with
 | .agg cs=>(xP h B cs).bind B fun _ ys => .ret (.agg ys)
 | x=>Be h B x
theorem Yo {ρ:aa} {h:av} {B:J} (u:J.ok ρ B) {x y:X} (hs:(H6 h B x).aq ρ=some y):Eh (aK ρ h) (x.I ρ) (y.I ρ):=by
 unfold H6 at hs
 split at hs
 ·obtain⟨_,ys,_,A,E⟩:=T.cZ _ u hs
  cases E
  exact .inr ⟨_,_,rfl,rfl,Ft u A⟩
 ·exact .inl (LV u hs)
def H7 (h:av) (B:J):List X->T (List X)
 | [] => .ret []
 | x::xs=>(H6 h B x).bind B fun B y=>(H7 h B xs).bind B fun _ ys => .ret (y::ys)
theorem Yp {ρ:aa} {h:av}:∀{xs ys:List X} {B:J},J.ok ρ B->(H7 h B xs).aq ρ=some ys->z0 (aK ρ h) (X.af ρ xs) (X.af ρ ys)
 | [],ys,B,_,hs=>by cases hs;rfl
 | x::xs,ys,B,u,hs=>by
  simp only[H7]at hs
  obtain⟨f0,y,bt,A,hs⟩:=T.cZ _ u hs
  obtain⟨_,zs,_,E,hs⟩:=T.cZ _ bt hs
  cases hs
  exact⟨_,_,rfl,Yo u A,Yp bt E⟩
def PH (h:av) (B:J) (x:X):T X:=match x with
 | .tup vs=>(H7 h B vs).bind B fun _ ys => .ret (.tup ys)
 | x=>H6 h B x
theorem aqs {ρ:aa} {h:av} {B:J} (u:J.ok ρ B) {x y:X} (hs:(PH h B x).aq ρ=some y):Ro (aK ρ h) (x.I ρ) (y.I ρ):=by
 unfold PH at hs
 split at hs
 ·obtain⟨_,ys,_,A,E⟩:=T.cZ _ u hs
  cases E
  exact .inr ⟨_,_,rfl,rfl,Yp u A⟩
 ·exact .inl (Yo u hs)
def IH (c:cr) (call:bI) (n f:Nat) (args:List X) (h:av) (B:J):T (X×aN) :=
 (vb h B args).bind B fun B ys => (FN c call n f ys B).bind B fun B p => if (p.1.own n && Pb n p.2) = true then (PH (iz p.2 []) B p.1).bind B fun _ r => .ret (r, []) else .fail ["own"]
def IG (c:cr) (call:bI) (f:Nat) (args:List X) (B:J):T (X×aN):=match Ch f args c.c.ks with
 | some r => .ret (r,[])
 | none=>match Ci f args c.sm with
  | some (c,r)=>want B c fun _ => .ret (r,[])
  | none => if X.lJ args = true then tI c.c call f args B else .fail ["args"]
def Dk (c:cr) (call:bI) (f:Nat) (args:List X) (h:av) (B:J):T (X×aN) :=
 (vb h B args).bind B fun B ys=>(IG c call f ys B).bind B fun _ p=>match p.2 with
  | [] => if p.1.plain = true then .ret (p.1, []) else .fail ["plain"]
  | _ => .fail ["plain"]
def K':List X->Option BE
 | [.rl z n l _,.rl z' n' l' _]=>if(Nat.beq z 1&&(Nat.beq z' 1&&(n.beq n'&&(l.beq l'&&l.kd [.s]))))=true then some (mkNot (mkLt (.lit 4611686018427387904) n))else none
 | _=>none
def Ql (c:cr) (call:bI) (f:Nat) (args:List X) (h:av) (B:J):T (X×aN) :=
 (vb h B args).bind B fun B ys=>match K' ys with
  | some b=>want B b fun _ => .ret (.sc (.b (.lit true)),[])
  | none=>Dk c call f args h B
def ZF (c:cr) (call:bI):bI:=fun n f args h B =>
 match yz n f args h c.c.kh with
 | some p => .ret p
 | none=>match GG f args B c.c.cl with
 | some r => .ret (r,[])
 | none =>
 if rC f c.c.ln=true then Ql c call f args h B
 else if rC f c.hf=true then vf c.c call n f args h B
 else if rC (f+10000) c.hf=true then Dk c call f args h B
 else if rC (f+20000) c.hf=true then stepG c call n f args h B
 else if rC (f+30000) c.hf=true then IH c call n f args h B
 else if X.lJ args=true then IG c call f args B
 else if args.all (fun x=>x.nn||(match x with | .sl _ _ _ _ _=>true | .slv _ _ _ _ _=>true | _=>false))=true then Dk c call f args h B else vf c.c call n f args h B
def eT (c:cr):Nat->bI
 | 0=>fun _ _ _ _ _=>(.fail [])
 | d+1=>ZF c (eT c d)
theorem ZC {P:Program} {ρ:aa} {c:cr} (H:cf P ρ c.c) (hs:∀s∈c.sm,c9 P s) {call:bI} (aO:dk P ρ call) {n:Nat} {f:Nat} {args:List X} {h:Hp} {B:J} (u:J.ok ρ B) {r:X} {d:aN}
  (hq:(IG c call f args B).aq ρ=some (r,d)):cj P f=true/\CY P n f (X.af ρ args) h (r.I ρ) (bn ρ d):=by
 unfold IG at hq
 split at hq
 ·rename_i r' O
  cases hq
  obtain⟨A,E⟩:=H.ks _ (We O)
  exact⟨A,E n _⟩
 ·split at hq
  ·rename_i dD r' O
   obtain⟨_,_,A,E⟩:=c4 u hq
   cases E
   obtain⟨g1,g2⟩:=NT (n:=n) (h:=h) hs O
   exact⟨g1,g2 A⟩
  ·split at hq
   ·rename_i ha
    exact CV H aO ha u hq
   ·cases hq
theorem Qm {P:Program} {ρ:aa} {c:cr} (H:cf P ρ c.c) (hs:∀s∈c.sm,c9 P s) {call:bI} (aO:dk P ρ call) {n:Nat} {f:Nat} {args:List X} {h:av} {B:J} (u:J.ok ρ B) {r:X} {d:aN}
  (hq:(Dk c call f args h B).aq ρ=some (r,d)):cj P f=true/\CY P n f (X.af ρ args) (aK ρ h) (r.I ρ) (bn ρ d):=by
 unfold Dk at hq
 obtain⟨f0,ys,bt,A,hq⟩:=T.cZ _ u hq
 obtain⟨_,p,_,E,hq⟩:=T.cZ _ bt hq
 obtain⟨r',gx⟩:=p
 split at hq
 ·rename_i hd
  simp only at hd
  subst hd
  split at hq
  ·rename_i hp
   cases hq
   obtain⟨g1,g2⟩:=ZC (n:=n) (h:=[]) H hs aO bt E
   exact⟨g1,RK (Bc u A) (X.Pj ρ _ hp) g2⟩
  ·cases hq
 ·cases hq
theorem Ox {n:Nat}:∀{l:List Nat},rC n l=true->n∈l
 | [],h=>by cases h
 | k::l,h=>by
  simp only[rC,Bool.or_eq_true]at h
  rcases h with h | h
  ·rw[Nat.eq_of_beq_eq_true h];exact List.mem_cons_self
  ·exact List.mem_cons_of_mem _ (Ox h)
theorem aqz {ρ:aa} {n:U} {l:RL} (h:l.kd [.s]=true):∃ss:List ByteArray,aX ρ n l=fC ss/\ss.length=(n.I ρ).toNat:=by
 refine⟨(List.range (n.I ρ).toNat).map fun(j:Nat)=>cellS (l.row ρ j)[0]?,?_,by simp⟩
 unfold aX fC
 rw[List.map_map]
 refine List.map_congr_left fun j _ => ?_
 obtain⟨v,r,e,hr⟩:=RL.rr (ρ:=ρ) (j:=(j:Int)) h
 have hr:r=[]:=hr
 subst hr
 simp only[Function.comp,e,List.getElem?_cons_zero,cellS]
theorem aeK {P:Program} {ρ:aa} {f n:Nat} {h:Hp} {ys:List X} {b:BE} (hf:pa P f) (hq:K' ys=some b) (hb:b.I ρ=true):CY P n f (X.af ρ ys) h (.sc (.bool true)) []:=by
 unfold K' at hq
 split at hq
 ·split at hq
  ·rename_i H
   cases hq
   simp only[Bool.and_eq_true]at H
   obtain⟨A,E,h3,h4,h5⟩:=H
   have A:=Nat.eq_of_beq_eq_true A
   have E:=Nat.eq_of_beq_eq_true E
   have h3:=U.beq_eq _ _ h3
   have h4:=RL.beq_eq h4
   subst A E h3 h4
   obtain⟨ss,e1,e2⟩:=aqz (ρ:=ρ) (n := ‹U›) h5
   rw[eA,hh]at hb
   simp only[U.I,Bool.not_eq_true']at hb
   have hb:=of_decide_eq_false hb
   simp only[X.af,X.I,e1]
   exact hf.2 ss _ _ n h (by omega)
  ·cases hq
 ·cases hq
theorem arx {P:Program} {ρ:aa} {c:cr} (H:cf P ρ c.c) (hs:∀s∈c.sm,c9 P s) {call:bI} (aO:dk P ρ call) {n:Nat} {f:Nat} (hf:pa P f) {args:List X} {h:av} {B:J} (u:J.ok ρ B) {r:X} {d:aN}
  (hq:(Ql c call f args h B).aq ρ=some (r,d)):cj P f=true/\CY P n f (X.af ρ args) (aK ρ h) (r.I ρ) (bn ρ d):=by
 unfold Ql at hq
 obtain⟨f0,ys,bt,A,hq⟩:=T.cZ _ u hq
 split at hq
 ·rename_i b hb
  obtain⟨_,_,E,h3⟩:=c4 bt hq
  cases h3
  exact⟨hf.1,RK (Bc u A) rfl (aeK (n:=n) (h:=[]) hf hb E)⟩
 ·exact Qm H hs aO bt hq
theorem U3 {P:Program} {ρ:aa} {c:cr} (H:cf P ρ c.c) {call:bI} (aO:dk P ρ call) {n:Nat} {f:Nat} {args:List X} {B:J} (u:J.ok ρ B) {p:X×aN}
  (hq:(FN c call n f args B).aq ρ=some p):cj P f=true/\CY P n f (X.af ρ args) (aK ρ []) (p.1.I ρ) (bn ρ p.2):=by
 unfold FN at hq
 split at hq
 ·rename_i O
  cases hq
  exact GH H.kh O
 ·exact Bw H aO u hq
theorem ary {P:Program} {ρ:aa} {c:cr} (H:cf P ρ c.c) {call:bI} (aO:dk P ρ call) {n:Nat} {f:Nat} {args:List X} {h:av} {B:J} (u:J.ok ρ B) {r:X} {d:aN}
  (hq:(stepG c call n f args h B).aq ρ=some (r,d)):cj P f=true/\CY P n f (X.af ρ args) (aK ρ h) (r.I ρ) (bn ρ d):=by
 unfold stepG at hq
 obtain⟨f0,ys,bt,A,hq⟩:=T.cZ _ u hq
 obtain⟨_,p,_,E,hq⟩:=T.cZ _ bt hq
 split at hq
 ·rename_i hp
  rw[Bool.and_eq_true]at hp
  cases hq
  obtain⟨g1,g2⟩:=U3 H aO bt E
  exact⟨g1,RM (Bc u A) (X.HE ρ n _ hp.1) (XO ρ hp.2) g2⟩
 ·cases hq
theorem ZE {P:Program} {ρ:aa} {c:cr} (H:cf P ρ c.c) {call:bI} (aO:dk P ρ call) {n:Nat} {f:Nat} {args:List X} {h:av} {B:J} (u:J.ok ρ B) {r:X} {d:aN}
  (hq:(IH c call n f args h B).aq ρ=some (r,d)):cj P f=true/\CY P n f (X.af ρ args) (aK ρ h) (r.I ρ) (bn ρ d):=by
 unfold IH at hq
 obtain⟨f0,ys,bt,A,hq⟩:=T.cZ _ u hq
 obtain⟨lY,p,dV,E,hq⟩:=T.cZ _ bt hq
 split at hq
 ·rename_i hp
  rw[Bool.and_eq_true]at hp
  obtain⟨_,y,_,h3,hq⟩:=T.cZ _ dV hq
  cases hq
  obtain⟨g1,g2⟩:=U3 H aO bt E
  have hd:=XO ρ hp.2
  refine⟨g1,abC (fun q hq=>(hd q hq).1) ?_ (RM (Bc u A) (X.HE ρ n _ hp.1) hd g2)⟩
  have:=aqs dV h3
  rw[pj]at this
  exact this
 ·cases hq
theorem ft {P:Program} {ρ:aa} {c:cr} (H:cf P ρ c.c) (hs:∀s∈c.sm,c9 P s):∀d,dk P ρ (eT c d)
 | 0=>fun n f args h B r d _ hq=>by cases hq
 | k+1=>fun n f args h B r d u hq=>by
  have aO:=ft H hs k
  simp only[eT]at hq
  unfold ZF at hq
  split at hq
  ·rename_i O
   cases hq
   exact GH H.kh O
  split at hq
  ·rename_i O
   cases hq
   exact Wd u H.cl O
  split at hq
  ·rename_i hw
   exact arx H hs aO (H.ln _ (Ox hw)) u hq
  split at hq
  ·exact Bw H aO u hq
  ·split at hq
   ·exact Qm H hs aO u hq
   split at hq
   ·exact ary H aO u hq
   split at hq
   ·exact ZE H aO u hq
   split at hq
   ·exact ZC H hs aO u hq
   ·split at hq
    ·exact Qm H hs aO u hq
    ·exact Bw H aO u hq
def aS (c : cr) (f : Nat) (args : List X) (B : J) : T X := if X.lJ args = true then (tI c.c (eT c 12) f args B).map (·.1) else .fail ["args"]
def Se (c:cr) (f:Nat) (args:List X):T X:=aS c f args []
theorem eG {P:Program} {ρ:aa} {c:cr} (H:cf P ρ c.c) (hs:∀s∈c.sm,c9 P s) {f:Nat} {args:List X} {B:J} {r:X} (u:J.ok ρ B) (h:(aS c f args B).aq ρ=some r):cj P f=true/\∀n h,CY P n f (X.af ρ args) h (r.I ρ) []:=by
 unfold aS at h
 split at h
 ·rename_i ha
  obtain⟨p,A,rfl⟩:=T.jk _ h
  obtain⟨r,d⟩:=p
  have hd:d=[]:=by
   unfold tI at A
   split at A
   ·obtain⟨_,z,_,_,h4⟩:=T.cZ _ u A
    split at h4
    ·cases h4;rfl
    ·cases h4
   ·cases A
  subst hd
  exact⟨(CV (n:=0) (h:=[]) H (ft H hs 12) ha u A).1,fun n hp=>(CV H (ft H hs 12) ha u A).2⟩
 ·cases h
theorem Sf {P:Program} {ρ:aa} {c:cr} (H:cf P ρ c.c) (hs:∀s∈c.sm,c9 P s) {f:Nat} {args:List X} {r:X} (h:(Se c f args).aq ρ=some r):cj P f=true/\∀n h,CY P n f (X.af ρ args) h (r.I ρ) [] :=
 eG H hs (J.bq ρ) h
theorem ars {P:Program} {c:cr} (H:∀ρ,cf P ρ c.c) (hs:∀s∈c.sm,c9 P s) {f:Nat} {pat:List X} {r:X} (h:Se c f pat = .ret r):c9 P ⟨f,pat,r,.lit true⟩ :=
 ⟨(Sf (ρ:=⟨fun _=>0,fun _=>false,fun _=>⟨#[]⟩,fun _=>0,fun _ _ _=>0,fun _ _ _=>false,fun _ _ _=>⟨#[]⟩,kN⟩) (H _) hs (by rw[h];rfl)).1,fun ρ n hp _=>(Sf (H ρ) hs (by rw[h];rfl)).2 n hp⟩
def fH (c:cr) (f:Nat) (args:List X) (cv:av) (B:J):T (X×aN):=vf c.c (eT c 12) 1 f args cv B
theorem uL {P:Program} {ρ:aa} {c:cr} (H:cf P ρ c.c) (hs:∀s∈c.sm,c9 P s) {f:Nat} {args:List X} {cv:av} {B:J} {r:X} {d:aN} (u:J.ok ρ B) (h:(fH c f args cv B).aq ρ=some (r,d)):cy P ρ ⟨f,args,cv,r,d⟩ :=
 Bw H (ft H hs 12) u h
def uM (c:cr) (f:Nat) (args:List X) (cv:av) (B:J):T (X×aN):=IH c (eT c 12) 1 f args cv B
theorem adj {P:Program} {ρ:aa} {c:cr} (H:cf P ρ c.c) (hs:∀s∈c.sm,c9 P s) {f:Nat} {args:List X} {cv:av} {B:J} {r:X} {d:aN} (u:J.ok ρ B) (h:(uM c f args cv B).aq ρ=some (r,d)):cy P ρ ⟨f,args,cv,r,d⟩ :=
 ZE H (ft H hs 12) u h
def lz (cv:av):aN:=cv.map fun q=>(q.1,some q.2)
def yT (cv:av):Bool:=cv.all fun q=>match bl (iz (lz cv) cv) q.1,bl cv q.1 with
 | some x,some y=>X.fc x y
 | _,_=>false
theorem adk {P:Program} {ρ:aa} {c:cr} (H:cf P ρ c.c) (hs:∀s∈c.sm,c9 P s) {f:Nat} {args:List X} {cv:av} {B:J} {r:X} (u:J.ok ρ B) (h:(uM c f args cv B).aq ρ=some (r,[])) (hi:yT cv=true):cy P ρ ⟨f,args,cv,r,lz cv⟩:=by
 obtain⟨A,E⟩:=adj H hs u h
 have hm:∀m,m∈(bn ρ (lz cv)).map (·.1)->∃q∈cv,q.1=m:=fun m hm=>by
  simp only[bn,lz,List.map_map,List.mem_map]at hm
  obtain⟨q,hq,rfl⟩:=hm
  exact⟨q,hq,rfl⟩
 refine⟨A,abB E (fun m => ?_) (fun m hq => ?_)⟩
 ·by_cases hq:m∈(bn ρ (lz cv)).map (·.1)
  ·obtain⟨q,R,rfl⟩:=hm m hq
   have:=List.all_eq_true.1 hi q R
   split at this
   ·rename_i x y e1 e2
    rw[<-pj,cL,cL,e1,e2,X.gv _ _ this]
   ·cases this
  ·exact gC _ _ m hq
 ·obtain⟨q,R,rfl⟩:=hm m hq
  have:=List.all_eq_true.1 hi q R
  split at this
  ·rename_i x y e1 e2
   rw[cL,e2];rfl
  ·cases this
end Go.Proofs.Xw
namespace Go.Proofs.Xw
open Go Go.Proofs.Aw
def A8 (P:Program) (p:TypeId->Option (List Kd)):Nat->List Field->Option (List Kd)
 | _,[]=>some []
 | off,f::fs=>if f.offset=off then
   (p f.type).bind fun l=>if l.length=P.cellsOf f.type then(A8 P p (off+P.cellsOf f.type) fs).map fun r=>l++r else none
  else none
def tP:Nat->List Kd->List Kd
 | 0,_=>[]
 | n+1,l=>tP n l++l
theorem Yk (l:List Kd):∀n,(tP n l).length=n*l.length
 | 0=>by simp[tP]
 | n+1=>by simp only[tP,List.length_append,Yk l n,Nat.succ_mul]
def lq (P:Program):Nat->TypeId->Option (List Kd)
 | 0,_=>none
 | d+1,t=>(match P.underlying t with
  | some .bool=>some [.b]
  | some (.int k)=>some [.i k]
  | some .string=>some [.s]
  | some (.struct fs)=>A8 P (lq P d) 0 fs.toList
  | some (.array n e)=>(lq P d e).bind fun l=>if l.length=P.cellsOf e then some (tP n l)else none
  | _=>none:Option (List Kd)).bind fun l=>if l.length=P.cellsOf t then some l else none
def B6:Kd->Value->Prop
 | .i k,v=>∃n,v = .int k n/\(Lit.int k n).wf=true
 | .b,v=>∃b,v = .bool b
 | .s,v=>∃s,v = .string s/\s.size<=maxLen
def KS:List Kd->List Value->Prop
 | [],vs=>vs=[]
 | k::ks,vs=>∃v r,vs=v::r/\B6 k v/\KS ks r
theorem KS.append:∀{l m:List Kd} {c d:List Value},KS l c->KS m d->KS (l++m) (c++d)
 | [],m,c,d,h,h'=>by simp only[KS]at h;subst h;exact h'
 | k::l,m,c,d,⟨v,r,e,R,hr⟩,h'=>by
  subst e
  exact⟨v,r++d,rfl,R,KS.append hr h'⟩
theorem KS.length:∀{l:List Kd} {c:List Value},KS l c->c.length=l.length
 | [],c,h=>by simp only[KS]at h;subst h;rfl
 | k::l,c,⟨v,r,e,_,hr⟩=>by subst e;simp[KS.length hr]
theorem KS.get:∀{l:List Kd} {c:List Value},KS l c->∀{i:Nat} {k:Kd},l[i]? = some k->∃v,c[i]? = some v/\B6 k v
 | [],_,_,i,k,h=>by simp at h
 | k'::l,c,⟨v,r,e,R,hr⟩,i,k,h=>by
  subst e
  cases i with
  | zero=>simp at h;subst h;exact⟨v,rfl,R⟩
  | succ i=>simpa using KS.get hr (by simpa using h)
section
variable {aR:Type} {enc:TypeId×Value->aR} {P:Program}
theorem Tt {am:Type} (l:List am) (off a b:Nat):(l.drop off).take (a+b)=(l.drop off).take a++(l.drop (off+a)).take b:=by
 rw[List.take_add,List.drop_drop]
def JA (_enc:TypeId×Value->aR) (_P:Program) (r:World->Nat->(Nat->Bool)->Bool->TypeId->List Value->Option (DataW aR×List MemPlace)) (t:TypeId) (ks:List Kd):Prop :=
 ∀w base sp held cs x,r w base sp held t cs=some x->x.2=[]/\KS ks cs/\∀w' base' jl i5,r w' base' jl i5 t cs=some x
theorem Ue {r:World->Nat->(Nat->Bool)->Bool->TypeId->List Value->Option (DataW aR×List MemPlace)} {p:TypeId->Option (List Kd)} (hp:∀t ks,p t=some ks->JA enc P r t ks) {w:World} {base:Nat} {sp:Nat->Bool} {held:Bool} {cs:List Value} :
  ∀(fs:List Field) (off:Nat) (ks:List Kd) (xs:List (DataW aR×List MemPlace)),A8 P p off fs=some ks->fs.mapM (fun f=>r w base sp held f.type ((cs.drop f.offset).take (P.cellsOf f.type)))=some xs ->
  xs.flatMap (·.2)=[]/\KS ks ((cs.drop off).take ks.length)/\∀w' base' jl i5,fs.mapM (fun f=>r w' base' jl i5 f.type ((cs.drop f.offset).take (P.cellsOf f.type)))=some xs
 | [],off,ks,xs,h,hm=>by
  simp only[A8,Option.some.injEq]at h
  subst h
  simp at hm
  subst hm
  exact⟨rfl,by simp[KS],fun _ _ _ _=>rfl⟩
 | f::fs,off,ks,xs,h,hm=>by
  simp only[A8]at h
  split at h
  ·rename_i q'
   subst q'
   obtain⟨l,O,h⟩:=Option.bind_eq_some_iff.1 h
   split at h
   ·rename_i hlen
    obtain⟨lA,u,rfl⟩:=Option.map_eq_some_iff.1 h
    simp only[List.mapM_cons,bind,Option.bind_eq_some_iff,pure,Option.some.injEq]at hm
    obtain⟨y,hy,ys,jH,rfl⟩:=hm
    obtain⟨bp,bj,gU⟩:=hp f.type l O w base sp held _ y hy
    obtain⟨b1,b2,de⟩:=Ue hp fs _ lA ys u jH
    refine⟨by simp[List.flatMap_cons,bp,b1],?_,fun w' base' jl i5 => ?_⟩
    ·rw[List.length_append,Tt,hlen]
     exact KS.append bj b2
    ·simp only[List.mapM_cons,bind,gU w' base' jl i5,de w' base' jl i5,Option.bind_some,pure]
   ·cases h
  ·cases h
theorem Ws {am β:Type} (f:am->Option β) (l:List am) (a:am) (r:List β):(l++[a]).mapM f=some r↔∃xs y,l.mapM f=some xs/\f a=some y/\r=xs++[y]:=by
 rw[List.mapM_append]
 simp only[bind,Option.bind_eq_some_iff,List.mapM_cons,List.mapM_nil,pure,Option.some.injEq]
 constructor
 ·rintro⟨xs,hx,ys,⟨y,hy,zs,rfl,rfl⟩,rfl⟩;exact⟨xs,y,hx,hy,rfl⟩
 ·rintro⟨xs,y,hx,hy,rfl⟩;exact⟨xs,hx,_,⟨y,hy,_,rfl,rfl⟩,rfl⟩
theorem Uc {r:World->Nat->(Nat->Bool)->Bool->TypeId->List Value->Option (DataW aR×List MemPlace)} {e:TypeId} {l:List Kd} (hp:JA enc P r e l) (O:l.length=P.cellsOf e) {w:World} {base:Nat} {sp:Nat->Bool} {held:Bool} {cs:List Value} :
  ∀(n:Nat) (xs:List (DataW aR×List MemPlace)),(List.range n).mapM (fun i=>r w base sp held e ((cs.drop (i*P.cellsOf e)).take (P.cellsOf e)))=some xs ->
  xs.flatMap (·.2)=[]/\KS (tP n l) (cs.take (n*l.length))/\∀w' base' jl i5,(List.range n).mapM (fun i=>r w' base' jl i5 e ((cs.drop (i*P.cellsOf e)).take (P.cellsOf e)))=some xs
 | 0,xs,hm=>by
  simp at hm
  subst hm
  exact⟨rfl,by simp[KS,tP],fun _ _ _ _=>rfl⟩
 | n+1,xs,hm=>by
  rw[List.range_succ,Ws]at hm
  obtain⟨ys,y,jH,hy,rfl⟩:=hm
  obtain⟨b1,b2,de⟩:=Uc hp O n ys jH
  obtain⟨bp,bj,gU⟩:=hp w base sp held _ y hy
  refine⟨by simp[List.flatMap_append,bp,b1],?_,fun w' base' jl i5 => ?_⟩
  ·simp only[tP,Nat.succ_mul]
   rw[List.take_add,O]
   rw[O]at b2
   exact KS.append b2 bj
  ·rw[List.range_succ,Ws]
   exact⟨ys,y,de w' base' jl i5,gU w' base' jl i5,rfl⟩
theorem Ba:∀(d n:Nat) (t:TypeId) (ks:List Kd),lq P d t=some ks->JA enc P (fun w base sp held=>DataW.trod enc P w base sp held n) t ks
 | 0,_,_,_,h=>by simp[lq]at h
 | d+1,0,t,ks,h=>by intro w base sp held cs x hx;simp[DataW.trod]at hx
 | d+1,n+1,t,ks,h=>by
  intro w base sp held cs x hx
  simp only[lq]at h
  obtain⟨l,O,h⟩:=Option.bind_eq_some_iff.1 h
  have Mw:l=ks/\ks.length=P.cellsOf t:=by
   split at h
   ·rename_i F;cases h;exact⟨rfl,F⟩
   ·cases h
  obtain⟨rfl,hlen⟩:=Mw
  clear h
  have goal:x.2=[]/\KS l cs/\∀w' base' jl i5,DataW.trod enc P w' base' jl i5 (n+1) t cs=some x:=by
   simp only[DataW.trod_step]at hx ⊢
   unfold DataW.trodStep at hx ⊢
   cases hu:P.underlying t with
   | none=>rw[hu]at O;cases O
   | some ds =>
    rw[hu]at O hx
    cases ds<;>simp only[reduceCtorEq]at O
    case bool =>
     cases O
     match cs,hx with
     | [.bool b],hx=>cases hx;exact⟨rfl,⟨_,_,rfl,⟨b,rfl⟩,rfl⟩,fun _ _ _ _=>rfl⟩
    case int k =>
     cases O
     match cs,hx with
     | [.int k' i],hx =>
      simp only at hx
      split at hx
      ·rename_i H
       cases hx
       obtain⟨rfl,hw⟩:=H
       exact⟨rfl,⟨_,_,rfl,⟨i,rfl,hw⟩,rfl⟩,fun _ _ _ _=>by simp[hw]⟩
      ·cases hx
    case string =>
     cases O
     match cs,hx with
     | [.string s],hx =>
      simp only at hx
      split at hx
      ·rename_i H
       cases hx
       exact⟨rfl,⟨_,_,rfl,⟨s,rfl,H⟩,rfl⟩,fun _ _ _ _=>by simp[H]⟩
      ·cases hx
    case struct fs =>
     simp only at hx
     split at hx
     ·rename_i H
      obtain⟨xs,vz,rfl⟩:=Option.map_eq_some_iff.1 hx
      obtain⟨bp,bj,gU⟩:=Ue (enc:=enc) (P:=P) (r:=fun w base sp held=>DataW.trod enc P w base sp held n) (p:=lq P d) (fun t ks h=>Ba d n t ks h) fs.toList 0 l xs O vz
      refine⟨bp,?_,fun w' base' jl i5 => ?_⟩
      ·rw[List.drop_zero,List.take_of_length_le (by omega)]at bj;exact bj
      ·simp only[H,if_true];rw[gU w' base' jl i5];rfl
     ·cases hx
    case array m e =>
     obtain⟨l',bY,O⟩:=Option.bind_eq_some_iff.1 O
     split at O
     ·rename_i hz
      cases O
      simp only at hx
      split at hx
      ·rename_i H
       obtain⟨xs,vz,rfl⟩:=Option.map_eq_some_iff.1 hx
       obtain⟨bp,bj,gU⟩:=Uc (enc:=enc) (P:=P) (r:=fun w base sp held=>DataW.trod enc P w base sp held n) (Ba d n e l' bY) hz m xs vz
       refine⟨bp,?_,fun w' base' jl i5 => ?_⟩
       ·rw[Yk]at hlen
        rw[List.take_of_length_le (by omega)]at bj;exact bj
       ·simp only[H,if_true];rw[gU w' base' jl i5];rfl
      ·cases hx
     ·cases O
  exact goal
end
end Go.Proofs.Xw
namespace Go.Proofs.Xw
open Go Go.Proofs.Aw Go.ChangeShapes Go.WideShapes
inductive Sh where
 | flat (ks:List Kd) (agg:Bool)
 | sl (ks:List Kd)
def IA (P:Program) (t:TypeId):Option Sh :=
 match P.underlying t with
 | some .bool=>some (.flat [.b] false)
 | some (.int k)=>some (.flat [.i k] false)
 | some .string=>some (.flat [.s] false)
 | some (.struct _)=>(lq P 8 t).map fun ks => .flat ks true
 | some (.array _ _)=>(lq P 8 t).map fun ks => .flat ks true
 | some (.slice e)=>(lq P 8 e).bind fun ks=>if 0<ks.length/\ks.length=P.cellsOf e then some (.sl ks)else none
 | _=>none
def canon:Nat->List Kd->List X
 | _,[]=>[]
 | p,.i k::ks => .sc (.i k (.var p))::canon (p+1) ks
 | p,.b::ks => .sc (.b (.var p))::canon (p+1) ks
 | p,.s::ks => .sc (.s (.var p))::canon (p+1) ks
def plain:List Sh->List Value->List Value
 | .flat _ _::r,v::vs=>v.cells.toList++plain r vs
 | .sl _::r,_::vs=>plain r vs
 | _,_=>[]
def ym:Option Value->Int
 | some (.int _ n)=>n
 | _=>0
def sy:Option Value->Bool
 | some (.bool b)=>b
 | _=>false
def r8:Option Value->ByteArray
 | some (.string s)=>s
 | _=>⟨#[]⟩
def d' (aj:World) (vs:List Value) (zs:List Nat) (l k r:Nat):Option Value :=
 match vs[l]?,zs[l]? with
 | some (.slice (some a) _ _),some z=>aj.cell? ((a.add (r*z)).add k)
 | some (.agg cs),some _=>cs[k]?
 | _,_=>none
def mB:Option Value->Nat
 | some (.slice _ n _)=>n
 | _=>0
def Cs (aj:World) (cells vs:List Value) (zs:List Nat):aa where
 i p:=ym cells[p]?
 b p:=sy cells[p]?
 s p:=r8 cells[p]?
 len j:=mB vs[j]?
 ci l k r:=ym (d' aj vs zs l k r)
 cb l k r:=sy (d' aj vs zs l k r)
 cs l k r:=r8 (d' aj vs zs l k r)
 ct:=kN
def Fits (aj:World):Sh->Value->Prop
 | .flat ks true,v=>∃cs,v = .agg cs/\KS ks cs.toList
 | .flat ks false,v=>∃k,ks=[k]/\B6 k v
 | .sl ks,v=>0<ks.length/\∃ab len cap,v = .slice ab len cap/\len<=cap/\(0<len->∃a,ab=some a/\a.block<aj.heap.size/\∀r,r<len->∃cs,KS ks cs/\∀k,k<ks.length->aj.cell? ((a.add (r*ks.length)).add k)=cs[k]?)
theorem KA {C:Ctx} {aj:World} {cells vs:List Value} {zs:List Nat}:∀(ks:List Kd) (p:Nat) (cs:List Value),KS ks cs->(∀i,i<ks.length->cells[p+i]? = cs[i]?)->aD C (X.af (Cs aj cells vs zs) (canon p ks)) cs
 | [],p,cs,h,_=>by simp only[KS]at h;subst h;simp only[canon,X.af,aD]
 | k::ks,p,cs,⟨v,r,e,R,hr⟩,H=>by
  subst e
  have h0:cells[p]? = some v:=by have:=H 0 (by simp);simpa using this
  have ih:=KA (C:=C) (aj:=aj) (vs:=vs) (zs:=zs) ks (p+1) r hr (fun i hi=>by
   have:=H (i+1) (by simp;omega)
   rw[show p+1+i=p+(i+1)from by omega,this];rfl)
  cases k with
  | i kk =>
   obtain⟨n,rfl,_⟩:=R
   simp only[canon,X.af,X.I,Sc.I,U.I,aD]
   exact⟨_,_,rfl,by simp only[ak,Cs,h0,ym],ih⟩
  | b =>
   obtain⟨n,rfl⟩:=R
   simp only[canon,X.af,X.I,Sc.I,BE.I,aD]
   exact⟨_,_,rfl,by simp only[ak,Cs,h0,sy],ih⟩
  | s =>
   obtain⟨n,rfl,_⟩:=R
   simp only[canon,X.af,X.I,Sc.I,TE.I,aD]
   exact⟨_,_,rfl,by simp only[ak,Cs,h0,r8],ih⟩
theorem Aq (ρ:aa) (l:Nat):∀(ks:List Kd) (k j:Nat),(bR ρ l k ks j).length=ks.length
 | [],_,_=>rfl
 | .i _::ks,k,j=>by simp only[bR,List.length_cons,Aq ρ l ks (k+1) j]
 | .b::ks,k,j=>by simp only[bR,List.length_cons,Aq ρ l ks (k+1) j]
 | .s::ks,k,j=>by simp only[bR,List.length_cons,Aq ρ l ks (k+1) j]
end Go.Proofs.Xw
namespace Go.Proofs.Xw
open Go Go.Proofs.Aw Go.ChangeShapes Go.WideShapes
section
variable {aR:Type} {enc:TypeId×Value->aR} {P:Program}
theorem Ck {am β:Type} {f:am->Option β}:∀{l:List am} {r:List β},l.mapM f=some r->∀x∈l,∃y,f x=some y
 | [],_,_,x,hx=>by cases hx
 | a::l,r,h,x,hx=>by
  simp only[List.mapM_cons,bind,Option.bind_eq_some_iff,pure]at h
  obtain⟨y,hy,ys,jH,_⟩:=h
  rcases List.mem_cons.1 hx with rfl | hx
  ·exact⟨y,hy⟩
  ·exact Ck jH x hx
theorem ara {aj W':World} (h:∀b,b<aj.heap.size->W'.heap[b]? = aj.heap[b]?) {p:MemPlace} (hp:p.block<aj.heap.size):aj.sameAt W' p:=by
 cases p with
 | cell b off=>simp only[World.sameAt,World.cell?,h b hp]
 | map b=>exact h b hp
theorem SF {aj W':World} (h:∀b,b<aj.heap.size->W'.heap[b]? = aj.heap[b]?) {base:Nat} {a:Addr} {n:Nat} {cs:List Value} (hn:0<n) (H:aj.cells? base a n=some cs):W'.cells? base a n=some cs:=by
 have hb:=World.cells?_block H hn
 refine World.cells?_carry H fun p hp => ?_
 obtain⟨i,_,rfl⟩:=MemPlace.mem_row.1 hp
 exact ara h hb
theorem aro {n:Nat} {t e:TypeId} {ks:List Kd} (hu:P.underlying t=some (.slice e)) (u:lq P 8 e=some ks) (kB:0<ks.length) (hz:ks.length=P.cellsOf e) {aj:World} {ab:Option Addr} {len cap:Nat} {x:DataW aR×List MemPlace}
  (h:DataW.trod enc P aj 0 (fun _=>true) true (n+1) t [.slice ab len cap]=some x) :
  Fits aj (.sl ks) (.slice ab len cap)/\∀(W':World) (sp:Nat->Bool),(∀b,b<aj.heap.size->W'.heap[b]? = aj.heap[b]?)->(∀q∈x.2,sp q.block=true)->DataW.trod enc P W' 0 sp true (n+1) t [.slice ab len cap]=some x:=by
 simp only[DataW.trod_step]at h ⊢
 unfold DataW.trodStep at h ⊢
 rw[hu]at h
 simp only[hu]at h ⊢
 cases ab with
 | none =>
  have Vg:len=0/\cap=0:=by
   cases len<;>cases cap<;>simp_all
  obtain⟨rfl,rfl⟩:=Vg
  refine⟨⟨kB,none,0,0,rfl,Nat.le_refl _,fun W=>absurd W (by omega)⟩,fun W' sp _ _ => ?_⟩
  simpa using h
 | some a =>
  simp only at h ⊢
  split at h
  ·rename_i H
   obtain⟨elems,F,h⟩:=Option.bind_eq_some_iff.1 h
   obtain⟨rest,hr,rfl⟩:=Option.map_eq_some_iff.1 h
   simp only[if_true]at hr
   have Mm:∀i y,(aj.cells? 0 (a.add (i*P.cellsOf e)) (P.cellsOf e)).bind (DataW.trod enc P aj 0 (fun _=>true) true n e)=some y ->
     ∃cs,aj.cells? 0 (a.add (i*P.cellsOf e)) (P.cellsOf e)=some cs/\KS ks cs/\∀w' dt s' h',DataW.trod enc P w' dt s' h' n e cs=some y:=fun i y hy=>by
    obtain⟨cs,A,E⟩:=Option.bind_eq_some_iff.1 hy
    obtain⟨_,g2,g3⟩:=Ba (enc:=enc) 8 n e ks u aj 0 (fun _=>true) true cs y E
    exact⟨cs,A,g2,g3⟩
   refine⟨⟨kB,some a,len,cap,rfl,H.2.1,fun O=>⟨a,rfl,?_,fun r mo => ?_⟩⟩,fun W' sp FD yb => ?_⟩
   ·obtain⟨y,hy⟩:=Ck F 0 (by simpa using O)
    obtain⟨cs,A,_⟩:=Mm 0 y hy
    have:=World.cells?_block A (by omega)
    simpa [block_add]using this
   ·obtain⟨y,hy⟩:=Ck F r (by simpa using mo)
    obtain⟨cs,A,E,_⟩:=Mm r y hy
    obtain⟨_,_,h4⟩:=World.cells?_some A
    exact⟨cs,E,fun k aJ=>by rw[hz];exact h4 k (by omega)⟩
   ·rw[if_pos H]
    have carry:∀i y,(aj.cells? 0 (a.add (i*P.cellsOf e)) (P.cellsOf e)).bind (DataW.trod enc P aj 0 (fun _=>true) true n e)=some y ->
      (W'.cells? 0 (a.add (i*P.cellsOf e)) (P.cellsOf e)).bind (DataW.trod enc P W' 0 sp true n e)=some y:=fun i y hy=>by
     obtain⟨cs,A,_,h3⟩:=Mm i y hy
     rw[SF FD (by omega) A]
     exact h3 _ _ _ _
    have e1:=mapM_carry (g:=fun i=>(W'.cells? 0 (a.add (i*P.cellsOf e)) (P.cellsOf e)).bind (DataW.trod enc P W' 0 sp true n e)) F fun i y _ _ hy=>carry i y hy
    rw[e1]
    simp only[Option.bind_some]
    have e2:(if sp a.block=true then(List.range (cap-len)).mapM fun j=>(W'.cells? 0 (a.add ((len+j)*P.cellsOf e)) (P.cellsOf e)).bind (DataW.trod enc P W' 0 sp true n e)else some [])=some rest:=by
     have e3:=mapM_carry (g:=fun j=>(W'.cells? 0 (a.add ((len+j)*P.cellsOf e)) (P.cellsOf e)).bind (DataW.trod enc P W' 0 sp true n e)) hr fun j y _ _ hy=>carry (len+j) y hy
     split
     ·exact e3
     ·rename_i MK
      have gk:rest.length=cap-len:=by
       have:∀(l:List Nat) (f:Nat->Option (DataW aR×List MemPlace)) (r:List (DataW aR×List MemPlace)),l.mapM f=some r->r.length=l.length:=fun l=>by
        induction l with
        | nil=>intro f r W;simp at W;subst W;rfl
        | cons x l ih =>
         intro f r W
         simp only[List.mapM_cons,bind,Option.bind_eq_some_iff,pure,Option.some.injEq]at W
         obtain⟨y,_,ys,jH,rfl⟩:=W
         simp[ih f ys jH]
       have:=this _ _ _ hr
       simpa using this
      by_cases h0:cap-len=0
      ·rw[h0]at gk
       rw[List.length_eq_zero_iff.1 gk]
      ·exfalso
       apply MK
       refine yb (.cell a.block (a.off+0)) (List.mem_append_left _ (MemPlace.mem_row.2 ⟨0,?_,rfl⟩))
       exact Nat.mul_pos (by omega) (by omega)
    rw[e2];rfl
  ·cases h
theorem T' {t:TypeId} {sh:Sh} (hs:IA P t=some sh) {aj:World} {base:Nat} {v:Value} (h8:Value.okWide P aj .any base t v) {d:DataW aR} {p:List MemPlace} (h:DataW.Trod enc P aj 0 (fun _=>true) true t v d p) :
  Fits aj sh v/\∀(W':World) (sp:Nat->Bool),(∀b,b<aj.heap.size->W'.heap[b]? = aj.heap[b]?)->(∀q∈p,sp q.block=true)->DataW.Trod enc P W' 0 sp true t v d p:=by
 obtain⟨n,hf⟩:=h
 have flatCase:∀ks,lq P 8 t=some ks->KS ks v.cells.toList/\∀(W':World) (sp:Nat->Bool),DataW.Trod enc P W' 0 sp true t v d p:=fun ks u=>by
  obtain⟨_,g2,g3⟩:=Ba (enc:=enc) 8 n t ks u aj 0 (fun _=>true) true _ _ hf
  exact⟨g2,fun W' sp=>⟨n,g3 W' 0 sp true⟩⟩
 cases hu:P.underlying t with
 | none=>unfold IA at hs;rw[hu]at hs;cases hs
 | some ds =>
  unfold IA at hs
  rw[hu]at hs
  cases ds<;>simp only[reduceCtorEq,Option.some.injEq]at hs
  case bool =>
   subst hs
   obtain⟨b,rfl⟩:=okWide_bool hu h8
   refine⟨⟨.b,rfl,b,rfl⟩,fun W' sp _ _=>⟨n,?_⟩⟩
   cases n with
   | zero=>simp[DataW.trod]at hf
   | succ n=>simp only[DataW.trod_step,DataW.trodStep,hu,Value.cells]at hf ⊢;exact hf
  case int k =>
   subst hs
   obtain⟨i,rfl⟩:=okWide_int hu h8
   cases n with
   | zero=>simp[DataW.trod]at hf
   | succ n =>
    simp only[DataW.trod_step,DataW.trodStep,hu,Value.cells]at hf
    refine⟨⟨.i k,rfl,i,rfl,?_⟩,fun W' sp _ _=>⟨n+1,?_⟩⟩
    ·by_cases hw:(Lit.int k i).wf=true
     ·exact hw
     ·simp[hw]at hf
    ·simp only[DataW.trod_step,DataW.trodStep,hu,Value.cells];exact hf
  case string =>
   subst hs
   obtain⟨s,rfl⟩:=okWide_string hu h8
   cases n with
   | zero=>simp[DataW.trod]at hf
   | succ n =>
    simp only[DataW.trod_step,DataW.trodStep,hu,Value.cells]at hf
    refine⟨⟨.s,rfl,s,rfl,?_⟩,fun W' sp _ _=>⟨n+1,?_⟩⟩
    ·by_cases hw:s.size<=maxLen
     ·exact hw
     ·simp[hw]at hf
    ·simp only[DataW.trod_step,DataW.trodStep,hu,Value.cells];exact hf
  case struct fs =>
   obtain⟨ks,u,rfl⟩:=Option.map_eq_some_iff.1 hs
   obtain⟨g1,g2⟩:=flatCase ks u
   have R:∃cs,v = .agg cs:=by
    simp only[Value.okWide,hu]at h8
    obtain⟨cs,A,_⟩:=h8
    exact⟨cs,A⟩
   obtain⟨cs,rfl⟩:=R
   exact⟨⟨cs,rfl,g1⟩,fun W' sp _ _=>g2 W' sp⟩
  case array m e =>
   obtain⟨ks,u,rfl⟩:=Option.map_eq_some_iff.1 hs
   obtain⟨g1,g2⟩:=flatCase ks u
   have R:∃cs,v = .agg cs:=by
    simp only[Value.okWide,hu]at h8
    obtain⟨cs,A,_⟩:=h8
    exact⟨cs,A⟩
   obtain⟨cs,rfl⟩:=R
   exact⟨⟨cs,rfl,g1⟩,fun W' sp _ _=>g2 W' sp⟩
  case slice e =>
   obtain⟨ks,u,hs⟩:=Option.bind_eq_some_iff.1 hs
   split at hs
   ·rename_i H
    cases hs
    obtain⟨ab,len,cap,rfl⟩:=okWide_slice hu h8
    cases n with
    | zero=>simp[DataW.trod]at hf
    | succ n =>
     obtain⟨g1,g2⟩:=aro hu u H.1 H.2 hf
     exact⟨g1,fun W' sp A E=>⟨n+1,g2 W' sp A E⟩⟩
   ·cases hs
theorem Z4 {w:World} {base:Nat} {sp:Nat->Bool} {held:Bool}:∀{ts:List TypeId} {vs:List Value} {ds:List (DataW aR)} {p:List MemPlace},DataW.TrodAll enc P w base sp held ts vs ds p->ds.length=ts.length
 | [],vs,ds,p,h=>by obtain⟨_,rfl,_⟩:=trodAll_nil h;rfl
 | t::ts,vs,ds,p,h=>by
  obtain⟨v,cn,d,sG,p1,p2,_,rfl,_,_,E⟩:=trodAll_cons h
  simp[Z4 E]
end
end Go.Proofs.Xw
namespace Go.Proofs.Xw
open Go Go.Proofs.Aw
def T.outs:T (XE×XS)->T (XE×XS)
 | .ret (.normal,_) => .fail []
 | .ret (.exit j,s) => .ret (.exit j,s)
 | .ret (.ret,s) => .ret (.ret,s)
 | .br c x y => .br c x.outs y.outs
 | .cT c x => .cT c x.outs
 | .fail w => .fail w
theorem T.HB {ρ:aa} {e:XE} {s:XS} (F:e ≠ .normal):∀{t:T (XE×XS)},t.aq ρ=some (e,s)->t.outs.aq ρ=some (e,s)
 | .ret (.normal,_),h=>by cases h;exact absurd rfl F
 | .ret (.exit j,s),h=>h
 | .ret (.ret,s),h=>h
 | .br c x y,h=>by
  simp only[T.aq]at h
  simp only[T.outs,T.aq]
  split
  ·rename_i H;rw[if_pos H]at h;exact T.HB F h
  ·rename_i H;rw[if_neg H]at h;exact T.HB F h
 | .cT c x,h=>by
  simp only[T.aq]at h
  simp only[T.outs,T.aq]
  split
  ·rename_i H;rw[if_pos H]at h;exact T.HB F h
  ·rename_i H;rw[if_neg H]at h;cases h
 | .fail _,h=>by cases h
def T.l_ (n:Nat):T (XE×XS)->Bool
 | .ret (_,s)=>s.au n
 | .br c x y=>c.au n&&(x.l_ n&&y.l_ n)
 | .cT c x=>c.au n&&x.l_ n
 | .fail _=>true
theorem T.Ah {n:Nat} {ρ G:aa} (h:aA n ρ G) {e:XE} {s:XS}:∀{t:T (XE×XS)},t.l_ n=true->t.aq ρ=some (e,s)->t.aq G=some (e,s)/\s.I ρ=s.I G
 | .ret (_,s'),hb,hs=>by cases hs;exact⟨rfl,XS.aP h _ hb⟩
 | .br c x y,hb,hs=>by
  simp only[T.l_,Bool.and_eq_true]at hb
  simp only[T.aq]at hs ⊢
  rw[<-BE.aP h c hb.1]
  split
  ·rename_i H;rw[if_pos H]at hs;exact T.Ah h hb.2.1 hs
  ·rename_i H;rw[if_neg H]at hs;exact T.Ah h hb.2.2 hs
 | .cT c x,hb,hs=>by
  simp only[T.l_,Bool.and_eq_true]at hb
  simp only[T.aq]at hs ⊢
  rw[<-BE.aP h c hb.1]
  split
  ·rename_i H;rw[if_pos H]at hs;exact T.Ah h hb.2 hs
  ·rename_i H;rw[if_neg H]at hs;cases hs
 | .fail _,_,hs=>by cases hs
def T.gK (p:XS->Bool):T (XE×XS)->Bool
 | .ret (.normal,s)=>p s
 | .ret _=>true
 | .br _ x y=>x.gK p&&y.gK p
 | .cT _ x=>x.gK p
 | .fail _=>true
theorem T.Hh {p:XS->Bool} {ρ:aa} {s:XS}:∀{t:T (XE×XS)},t.gK p=true->t.aq ρ=some (.normal,s)->p s=true
 | .ret (.normal,_),h,hs=>by cases hs;exact h
 | .ret (.exit j,_),_,hs=>by cases hs
 | .ret (.ret,_),_,hs=>by cases hs
 | .br c x y,h,hs=>by
  simp only[T.gK,Bool.and_eq_true]at h
  simp only[T.aq]at hs
  split at hs
  ·exact T.Hh h.1 hs
  ·exact T.Hh h.2 hs
 | .cT c x,h,hs=>by
  simp only[T.aq]at hs
  split at hs
  ·exact T.Hh (t:=x) h hs
  ·cases hs
 | .fail _,_,hs=>by cases hs
def eu (ks:List Nat) (p:XE×XS):XE×XS:=(p.1,⟨qe p.2.t ks [] [],p.2.h,p.2.nx⟩)
theorem zt (ks:List Nat) (ρ:aa) (p:XE×XS):ga ((eu ks p).2.I ρ) (p.2.I ρ):=by
 refine⟨fun i => ?_,fun m cs aI=>⟨cs,aI,bQ.refl cs⟩,Nat.le_refl _⟩
 simp only[XS.I,eu,jm,DB]
 split
 ·exact b'.refl _
 ·simp only[b3,X.I];exact b'.top _
theorem aid {P:Program} {ρ:aa} {N:Nat} {body:Code} {L:bo} {ti:Nat->Option TI} {call:bI} {ms:List Nat} {bP:List bo} {fuel:Nat} (hm:P.follows .mixedOrders=true) (bb:eO.ok P ti)
  {B:J} {tr:T (XE×XS)} (bJ:(cz ti call ms L.k0 bP fuel body B L.S).map (eu (L.S.t.map (·.1)))=tr) (d8:dp N body=true) {β:Bind} {nm:List (Nm×Nm)} (ul:tr.gK (gp L.k0 L.n β nm L.S)=true) (vr:L.out=tr.outs)
  (ad:Nat) (qV:tr.outs.l_ ad=true) (ao:Nat->aa->Prop) (h0:∃k,ao k (L.init.ap ρ))
  (hR:∀k G,ao k G->dk P G call/\a5 P G N bP body/\J.ok G B /\
   ((∃e s,e≠XE.normal/\tr.aq G=some (e,s)/\aA ad G ρ)\/∃s,tr.aq G=some (.normal,s)/\∃k',k'<k/\ao k' (β.ap G))):b8 P ρ N body L:=by
 intro ac hE hb
 obtain⟨k,u⟩:=h0
 refine RH (fun k V=>∃G,ao k G/\V=L.S.I G) k ⟨_,B0 _ _,_,u,rfl⟩ (fun k V agO => ?_)
 obtain⟨G,afT,rfl⟩:=agO
 obtain⟨aO,O,BZ,ho⟩:=hR k G afT
 have run:∀(e:XE) (s:XS),tr.aq G=some (e,s)->AW P ac body (fun e' s'=>e'=e.to/\dL ac s' (s.I G)) (L.S.I G):=fun e s hs=>by
  rw[<-bJ]at hs
  obtain⟨q,hq,F⟩:=T.jk _ hs
  have g:=kf (ac:=ac) hm bb aO hb body B L.S q.1 q.2 BZ (by rw[hE];exact d8) (by rw[hE];exact O) hq
  have A:=congrArg Prod.fst F
  have E:=congrArg Prod.snd F
  simp only at A E
  subst A E
  exact dB (fun e' s' W=>⟨W.1,fx W.2 (zt _ G q)⟩) g
 rcases ho with⟨e,s,F,hs,ch⟩ | ⟨s,hs,k',aT,aJ⟩
 ·have g:=run e s hs
  refine dB (fun e' s' hq => ?_) g
  obtain⟨rfl,hi⟩:=hq
  obtain⟨A,E⟩:=T.Ah ch qV (T.HB F hs)
  have fin:∃e' Y6,L.out.aq ρ=some (e',Y6)/\e.to=e'.to/\dL ac s' (Y6.I ρ):=⟨e,s,by rw[vr];exact A,rfl,by rw[<-E];exact hi⟩
  cases e with
  | normal=>exact absurd rfl F
  | exit j=>exact fin
  | ret=>exact fin
 ·have g:=run .normal s hs
  refine dB (fun e' s' hq => ?_) g
  obtain⟨rfl,hi⟩:=hq
  exact⟨k',_,aT,vH hi (lL hb (T.Hh ul hs) G),β.ap G,aJ,rfl⟩
noncomputable def Bind.it (β:Bind) (ρ:aa):Nat->aa
 | 0=>ρ
 | j+1=>β.ap (β.it ρ j)
theorem Bind.vN {n:Nat} {β:Bind} (h:β.ge n=true) (ρ:aa):∀j,aA n ρ (β.it ρ j)
 | 0=>aA.refl _ _
 | j+1=>(Bind.vN h ρ j).trans (Bind.bC h _)
def pJ {am β:Type}:List (Nat×am)->List (Nat×β)->Bool
 | [],[]=>true
 | (a,_)::r,(b,_)::s=>Nat.beq a b&&pJ r s
 | _,_=>false
theorem kK {am β:Type} {k:Nat}:∀{l:List (Nat×am)} {m:List (Nat×β)},pJ l m=true->(bh k l=none↔bh k m=none)
 | [],[],_=>⟨fun _=>rfl,fun _=>rfl⟩
 | [],_::_,h=>by cases h
 | _::_,[],h=>by simp[pJ]at h
 | (a,v)::r,(b,w)::s,h=>by
  simp only[pJ,Bool.and_eq_true]at h
  have ha:=Nat.eq_of_beq_eq_true h.1
  subst ha
  simp only[bh]
  split
  ·simp
  ·exact kK h.2
def Bind.same (β mO:Bind):Bool:=pJ β.i mO.i&&(pJ β.b mO.b&&(pJ β.s mO.s&&pJ β.r mO.r))
def vQ {am:Type} (f:am->Bool):List (Nat×am)->Bool
 | []=>true
 | (_,v)::r=>f v&&vQ f r
theorem hg {am:Type} {f:am->Bool} {k:Nat} {v:am}:∀{l:List (Nat×am)},vQ f l=true->bh k l=some v->f v=true
 | [],_,h=>by cases h
 | (a,w)::r,hb,h=>by
  simp only[vQ,Bool.and_eq_true]at hb
  simp only[bh]at h
  split at h
  ·cases h;exact hb.1
  ·exact hg hb.2 h
def Bind.au (n:Nat) (β:Bind):Bool:=vQ (U.au n) β.i&&(vQ (BE.au n) β.b&&(vQ (TE.au n) β.s&&vQ (fun p:U×RL=>p.1.au n&&p.2.au n) β.r))
theorem Bind.ac3 {n m:Nat} {β:Bind} (hb:β.au n=true) {ρ G:aa} (h:aA n ρ G) (_hm:aA m ρ G\/m=n):aA (Nat.min n m) (β.ap ρ) (β.ap G):=by
 simp only[Bind.au,Bool.and_eq_true]at hb
 obtain⟨A,E,h3,h4⟩:=hb
 have hn:=h.le (Nat.min_le_left n m)
 refine⟨fun k u => ?_,fun k u => ?_,fun k u => ?_,fun k u => ?_,fun k u => ?_,fun k u => ?_,fun k u => ?_,fun k u=>hn.ct k u⟩
 ·simp only[Bind.ap]
  cases F:bh k β.i with
  | none=>exact hn.i k u
  | some e=>exact U.aP h e (hg A F)
 ·simp only[Bind.ap]
  cases F:bh k β.b with
  | none=>exact hn.b k u
  | some e=>exact BE.aP h e (hg E F)
 ·simp only[Bind.ap]
  cases F:bh k β.s with
  | none=>exact hn.s k u
  | some e=>exact TE.aP h e (hg h3 F)
 ·simp only[Bind.ap]
  cases F:bh k β.r with
  | none=>exact hn.len k u
  | some e =>
   have:=hg h4 F
   simp only[Bool.and_eq_true]at this
   simp only[U.aP h e.1 this.1]
 all_goals
  funext a b
  simp only[Bind.ap]
  cases F:bh k β.r with
  | none=>first | exact congrFun (congrFun (hn.ci k u) a) b | exact congrFun (congrFun (hn.cb k u) a) b | exact congrFun (congrFun (hn.cs k u) a) b
  | some e =>
   have:=hg h4 F
   simp only[Bool.and_eq_true]at this
   simp only[RL.iR h e.2 _ this.2]
theorem Bind.ag3 {n:Nat} {bG β:Bind} (hi:bG.au n=true) (hb:β.ge n=true) (hs:bG.same β=true) (ρ:aa) (j:Nat):bG.ap (β.it (bG.ap ρ) j)=bG.ap ρ:=by
 simp only[Bind.same,Bool.and_eq_true]at hs
 obtain⟨s1,s2,s3,s4⟩:=hs
 simp only[Bind.au,Bool.and_eq_true]at hi
 obtain⟨A,E,h3,h4⟩:=hi
 have stay:∀j,(∀k,bh k bG.i=none->(β.it (bG.ap ρ) j).i k=ρ.i k)/\(∀k,bh k bG.b=none->(β.it (bG.ap ρ) j).b k=ρ.b k)/\(∀k,bh k bG.s=none->(β.it (bG.ap ρ) j).s k=ρ.s k) /\
   (∀k,bh k bG.r=none->(β.it (bG.ap ρ) j).len k=ρ.len k/\(β.it (bG.ap ρ) j).ci k=ρ.ci k/\(β.it (bG.ap ρ) j).cb k=ρ.cb k/\(β.it (bG.ap ρ) j).cs k=ρ.cs k):=by
  intro j
  induction j with
  | zero =>
   refine⟨fun k u => ?_,fun k u => ?_,fun k u => ?_,fun k u=>⟨?_,?_,?_,?_⟩⟩
   ·simp only[Bind.it,Bind.ap,u]
   ·simp only[Bind.it,Bind.ap,u]
   ·simp only[Bind.it,Bind.ap,u]
   ·simp only[Bind.it,Bind.ap,u]
   ·funext a b;simp only[Bind.it,Bind.ap,u]
   ·funext a b;simp only[Bind.it,Bind.ap,u]
   ·funext a b;simp only[Bind.it,Bind.ap,u]
  | succ j ih =>
   obtain⟨i1,ot,vE,jK⟩:=ih
   refine⟨fun k u => ?_,fun k u => ?_,fun k u => ?_,fun k u=>⟨?_,?_,?_,?_⟩⟩
   ·have:=(kK s1).1 u
    simp only[Bind.it];rw[show(β.ap (β.it (bG.ap ρ) j)).i k=(β.it (bG.ap ρ) j).i k from by simp only[Bind.ap,this]];exact i1 k u
   ·have:=(kK s2).1 u
    simp only[Bind.it];rw[show(β.ap (β.it (bG.ap ρ) j)).b k=(β.it (bG.ap ρ) j).b k from by simp only[Bind.ap,this]];exact ot k u
   ·have:=(kK s3).1 u
    simp only[Bind.it];rw[show(β.ap (β.it (bG.ap ρ) j)).s k=(β.it (bG.ap ρ) j).s k from by simp only[Bind.ap,this]];exact vE k u
   ·have:=(kK s4).1 u
    simp only[Bind.it];rw[show(β.ap (β.it (bG.ap ρ) j)).len k=(β.it (bG.ap ρ) j).len k from by simp only[Bind.ap,this]];exact(jK k u).1
   ·have:=(kK s4).1 u
    simp only[Bind.it];rw[show(β.ap (β.it (bG.ap ρ) j)).ci k=(β.it (bG.ap ρ) j).ci k from by funext a b;simp only[Bind.ap,this]];exact(jK k u).2.1
   ·have:=(kK s4).1 u
    simp only[Bind.it];rw[show(β.ap (β.it (bG.ap ρ) j)).cb k=(β.it (bG.ap ρ) j).cb k from by funext a b;simp only[Bind.ap,this]];exact(jK k u).2.2.1
   ·have:=(kK s4).1 u
    simp only[Bind.it];rw[show(β.ap (β.it (bG.ap ρ) j)).cs k=(β.it (bG.ap ρ) j).cs k from by funext a b;simp only[Bind.ap,this]];exact(jK k u).2.2.2
 have vl:bG.ge n=true:=by
  simp only[Bind.ge,Bool.and_eq_true]at hb ⊢
  have ge:∀{am mO:Type} {l:List (Nat×am)} {m:List (Nat×mO)},pJ l m=true->kJ n m=true->kJ n l=true:=by
   intro am mO l
   induction l with
   | nil=>intro m _ _;rfl
   | cons p l ih =>
    intro m A E
    match m,A,E with
    | q::m,A,E =>
     simp only[pJ,Bool.and_eq_true]at A
     simp only[kJ,Bool.and_eq_true]at E ⊢
     rw[Nat.eq_of_beq_eq_true A.1]
     exact⟨E.1,ih A.2 E.2⟩
  exact⟨ge s1 hb.1,ge s2 hb.2.1,ge s3 hb.2.2.1,ge s4 hb.2.2.2⟩
 have ch:aA n (β.it (bG.ap ρ) j) ρ:=((Bind.bC vl ρ).trans (Bind.vN hb _ j)).symm
 obtain⟨i1,ot,vE,jK⟩:=stay j
 have ext:∀{a b:aa},a.i=b.i->a.b=b.b->a.s=b.s->a.len=b.len->a.ci=b.ci->a.cb=b.cb->a.cs=b.cs->a.ct=b.ct->a=b:=fun {a b} q1 q2 q3 q4 q5 q6 q7 v0=>by
  cases a;cases b;simp only at q1 q2 q3 q4 q5 q6 q7 v0;subst q1 q2 q3 q4 q5 q6 q7 v0;rfl
 have itc:∀j,(β.it (bG.ap ρ) j).ct=ρ.ct:=fun j=>by
  induction j with
  | zero=>rfl
  | succ j ih=>exact ih
 refine ext ?_ ?_ ?_ ?_ ?_ ?_ ?_ (itc j)
 ·funext k;simp only[Bind.ap]
  cases F:bh k bG.i with
  | none=>exact i1 k F
  | some e=>exact U.aP ch e (hg A F)
 ·funext k;simp only[Bind.ap]
  cases F:bh k bG.b with
  | none=>exact ot k F
  | some e=>exact BE.aP ch e (hg E F)
 ·funext k;simp only[Bind.ap]
  cases F:bh k bG.s with
  | none=>exact vE k F
  | some e=>exact TE.aP ch e (hg h3 F)
 ·funext k;simp only[Bind.ap]
  cases F:bh k bG.r with
  | none=>exact(jK k F).1
  | some e =>
   have:=hg h4 F
   simp only[Bool.and_eq_true]at this
   exact congrArg Int.toNat (U.aP ch e.1 this.1)
 ·funext k a b;simp only[Bind.ap]
  cases F:bh k bG.r with
  | none=>exact congrFun (congrFun (jK k F).2.1 a) b
  | some e =>
   have:=hg h4 F
   simp only[Bool.and_eq_true]at this
   exact congrArg (fun r:List AV=>aH r[a]?) (RL.iR ch e.2 b this.2)
 ·funext k a b;simp only[Bind.ap]
  cases F:bh k bG.r with
  | none=>exact congrFun (congrFun (jK k F).2.2.1 a) b
  | some e =>
   have:=hg h4 F
   simp only[Bool.and_eq_true]at this
   exact congrArg (fun r:List AV=>dS r[a]?) (RL.iR ch e.2 b this.2)
 ·funext k a b;simp only[Bind.ap]
  cases F:bh k bG.r with
  | none=>exact congrFun (congrFun (jK k F).2.2.2 a) b
  | some e =>
   have:=hg h4 F
   simp only[Bool.and_eq_true]at this
   exact congrArg (fun r:List AV=>cellS r[a]?) (RL.iR ch e.2 b this.2)
theorem aic {P:Program} {ρ:aa} {N:Nat} {body:Code} {L:bo} {ti:Nat->Option TI} {call:bI} {ms:List Nat} {bP:List bo} {fuel:Nat} (hm:P.follows .mixedOrders=true) (bb:eO.ok P ti)
  {B:J} {tr:T (XE×XS)} (bJ:(cz ti call ms L.k0 bP fuel body B L.S).map (eu (L.S.t.map (·.1)))=tr) (d8:dp N body=true) {β:Bind} {nm:List (Nm×Nm)} (ul:tr.gK (gp L.k0 L.n β nm L.S)=true) (vr:L.out=tr.outs)
  (ad:Nat) (qV:tr.outs.l_ ad=true) (hi:L.init.au L.n=true) (hb:β.ge L.n=true) (hs:L.init.same β=true) (n:Nat)
  (hR:∀j,j<=n->dk P (β.it (L.init.ap ρ) j) call/\a5 P (β.it (L.init.ap ρ) j) N bP body/\J.ok (β.it (L.init.ap ρ) j) B /\
   (if j<n then ∃s,tr.aq (β.it (L.init.ap ρ) j)=some (.normal,s)else ∃e s,e≠XE.normal/\tr.aq (β.it (L.init.ap ρ) j)=some (e,s))):b8 P (β.it (L.init.ap ρ) n) N body L:=by
 refine aid hm bb bJ d8 ul vr ad qV (fun k G=>∃j,j+k=n/\G=β.it (L.init.ap ρ) j) ⟨n,0,by omega,Bind.ag3 hi hb hs ρ n⟩ ?_
 rintro k G ⟨j,M,rfl⟩
 obtain⟨A,E,h3,h4⟩:=hR j (by omega)
 refine⟨A,E,h3,?_⟩
 by_cases oi:j<n
 ·rw[if_pos oi]at h4
  obtain⟨s,h4⟩:=h4
  exact .inr ⟨s,h4,k-1,by omega,j+1,by omega,rfl⟩
 ·rw[if_neg oi]at h4
  obtain⟨e,s,F,h4⟩:=h4
  obtain rfl:j=n:=by omega
  exact .inl ⟨e,s,F,h4,aA.refl _ _⟩
theorem b8.bC {P:Program} {ρ G:aa} {N:Nat} {body:Code} {L:bo} {ad:Nat} (hS:L.S.au ad=true) (hi:L.init.au ad=true) (ho:L.out.l_ ad=true) (h:aA ad ρ G) (hL:b8 P ρ N body L):b8 P G N body L:=by
 intro ac hE hb
 have A:=hL ac hE hb
 have E:aA ad (L.init.ap ρ) (L.init.ap G):=by
  have:=Bind.ac3 (m:=ad) hi h (.inr rfl)
  rwa[show Nat.min ad ad=ad from Nat.min_self ad]at this
 rw[XS.aP E L.S hS]at A
 refine dB (fun e s hq => ?_) A
 obtain⟨e',s',q1,q2,q3⟩:=hq
 obtain⟨g1,g2⟩:=T.Ah h ho q1
 exact⟨e',s',g1,q2,by rw[<-g2];exact q3⟩
end Go.Proofs.Xw
namespace Go.Proofs.Xw
open Go Go.Proofs.Aw
theorem Gg {β:Bind} {aC:Nat} {e:U} (hI:bh aC β.i=some (.op .add .i64 (.var aC) (.lit 1))) {ρ:aa} (h0:ρ.i aC=0):∀j:Nat,j<9223372036854775808->(β.it ρ j).i aC=j
 | 0,_=>by simpa [Bind.it]using h0
 | j+1,M=>by
  have ih:=Gg (e:=e) hI h0 j (by omega)
  simp only[Bind.it]
  rw[show(β.ap (β.it ρ j)).i aC=U.I (β.it ρ j) (.op .add .i64 (.var aC) (.lit 1))from by simp only[Bind.ap,hI]]
  simp only[U.I,a_.I,ih]
  rw[cp _ (by omega) (by omega)]
  omega
theorem J.adA {n:Nat} {ρ G:aa} (h:aA n ρ G) {B:J} (hb:B.all (fun p=>p.1.au n)=true) (u:J.ok ρ B):J.ok G B:=fun p hp=>by
 rw[<-BE.aP h p.1 (List.all_eq_true.1 hb p hp)]
 exact u p hp
theorem aib {P:Program} {ρ:aa} {N:Nat} {body:Code} {L:bo} {ti:Nat->Option TI} {call:bI} {ms:List Nat} {bP:List bo} {fuel:Nat} (hm:P.follows .mixedOrders=true) (bb:eO.ok P ti)
  {B:J} {tr:T (XE×XS)} (bJ:(cz ti call ms L.k0 bP fuel body B L.S).map (eu (L.S.t.map (·.1)))=tr) (d8:dp N body=true) {β:Bind} {nm:List (Nm×Nm)} (ul:tr.gK (gp L.k0 L.n β nm L.S)=true) (vr:L.out=tr.outs)
  (ad:Nat) (qV:tr.outs.l_ ad=true) (hi:L.init.au L.n=true) (hb:β.ge L.n=true) (hs:L.init.same β=true)
  {aC:Nat} (hI:bh aC β.i=some (.op .add .i64 (.var aC) (.lit 1))) (LT:bh aC L.init.i=some (.lit 0)) {dl:J} (BZ:B=(.lt (.var aC) (.lit 0),false)::dl) (M5:dl.all (fun p=>p.1.au L.n)=true) (M4:J.ok ρ dl) (vl:L.init.ge L.n=true)
  (aO:∀G,dk P G call) (lw:∀G,a5 P G N bP body) (n:Nat) (hn:n<9223372036854775808)
  (Mo:∀j,j<n->(β.it (L.init.ap ρ) j).i aC=j->aA L.n ρ (β.it (L.init.ap ρ) j)->∃s,tr.aq (β.it (L.init.ap ρ) j)=some (.normal,s))
  (Mk:(β.it (L.init.ap ρ) n).i aC=n->aA L.n ρ (β.it (L.init.ap ρ) n)->∃e s,e≠XE.normal/\tr.aq (β.it (L.init.ap ρ) n)=some (e,s)):b8 P (β.it (L.init.ap ρ) n) N body L:=by
 have jA:=fun j=>Gg (e := .lit 0) hI (ρ:=L.init.ap ρ) (by simp only[Bind.ap,LT];rfl) j
 have ah:=fun j=>(Bind.bC vl ρ).trans (Bind.vN hb (L.init.ap ρ) j)
 refine aic hm bb bJ d8 ul vr ad qV hi hb hs n fun j M=>⟨aO _,lw _,?_,?_⟩
 ·rw[BZ]
  refine J.aw ?_ (J.adA (ah j) M5 M4)
  simp only[BE.I,U.I,jA j (by omega)]
  exact decide_eq_false (by omega)
 ·by_cases oi:j<n
  ·rw[if_pos oi]
   exact Mo j oi (jA j (by omega)) (ah j)
  ·obtain rfl:j=n:=by omega
   rw[if_neg oi]
   exact Mk (jA j (by omega)) (ah j)
theorem Wi {P:Program} {ρ:aa} {N:Nat} {body:Code} {L:bo} {ti:Nat->Option TI} {call:bI} {ms:List Nat} {bP:List bo} {fuel:Nat} (hm:P.follows .mixedOrders=true) (bb:eO.ok P ti)
  {B:J} {tr:T (XE×XS)} (bJ:(cz ti call ms L.k0 bP fuel body B L.S).map (eu (L.S.t.map (·.1)))=tr) (d8:dp N body=true) {β:Bind} {nm:List (Nm×Nm)} (ul:tr.gK (gp L.k0 L.n β nm L.S)=true) (vr:L.out=tr.outs)
  (ad:Nat) (qV:tr.outs.l_ ad=true) (hi:L.init.au L.n=true) (hb:β.ge L.n=true) (hs:L.init.same β=true)
  {aC:Nat} {e:U} {s1 s2:XS} {e2:XE} (Vq:tr = .br (.lt (.var aC) e) (.ret (.normal,s1)) (.ret (e2,s2))) (Bv:e2 ≠ .normal) (hI:bh aC β.i=some (.op .add .i64 (.var aC) (.lit 1))) (LT:bh aC L.init.i=some (.lit 0)) (F:e.au L.n=true)
  {dl:J} (BZ:B=(.lt (.var aC) (.lit 0),false)::dl) (M5:dl.all (fun p=>p.1.au L.n)=true) (M4:J.ok ρ dl) (vl:L.init.ge L.n=true)
  (aO:∀G,dk P G call) (lw:∀G,a5 P G N bP body) (n:Nat) (hn:n<9223372036854775808) (U6:e.I ρ=n):b8 P (β.it (L.init.ap ρ) n) N body L:=by
 refine aib hm bb bJ d8 ul vr ad qV hi hb hs hI LT BZ M5 M4 vl aO lw n hn (fun j M H ha=>⟨s1,?_⟩) (fun H ha=>⟨e2,s2,Bv,?_⟩)
 ·rw[Vq]
  simp only[T.aq,BE.I,<-U.aP ha e F,U6,U.I,H]
  rw[if_pos (decide_eq_true (by omega))]
 ·rw[Vq]
  simp only[T.aq,BE.I,<-U.aP ha e F,U6,U.I,H]
  rw[if_neg (by simp)]
noncomputable def fin (bG β:Bind) (l:Nat) (ρ:aa):aa:=β.it (bG.ap ρ) (ρ.len l)
def wm (bP:List bo) (ks:List Nat):Nat->List Code->Bool
 | _,[]=>true
 | k,c::r=>(rC k ks||(jO (dF c) bP).isEmpty)&&wm bP ks (k+1) r
theorem lE {P:Program} {ρ:aa} {N:Nat} {bP:List bo} {c:Code} (ks:List Nat) (ho:wm bP ks 0 (ef c)=true)
  (h:∀k∈ks,∀L∈jO (dF ((ef c)[k]?.getD .skip)) bP,b8 P ρ N ((ef c)[k]?.getD .skip) L):a5 P ρ N bP c:=by
 unfold a5
 generalize O:ef c=l at h ho ⊢
 have key:∀(r:List Code) (k0:Nat),wm bP ks k0 r=true->(∀j,r[j]? = l[k0+j]?)->∀dD∈r,∀L∈jO (dF dD) bP,b8 P ρ N dD L:=by
  intro r
  induction r with
  | nil=>intro k0 _ _ dD H;cases H
  | cons d r ih =>
   intro k0 ho M dD H L hL
   simp only[wm,Bool.and_eq_true,Bool.or_eq_true]at ho
   rcases List.mem_cons.1 H with rfl | H
   ·have h0:=M 0
    simp only[List.getElem?_cons_zero,Nat.add_zero]at h0
    rcases ho.1 with A | A
    ·have:=h k0 (Ox A)
     rw[<-h0]at this
     exact this L hL
    ·rw[List.isEmpty_iff.1 A]at hL;cases hL
   ·exact ih (k0+1) ho.2 (fun j=>by have:=M (j+1);rw[List.getElem?_cons_succ]at this;rw[this];congr 1;omega) dD H L hL
 exact key l 0 ho (fun j=>by rw[Nat.zero_add])
theorem lD {P:Program} {ρ:aa} {N:Nat} {c:Code} {L:bo} {bP:List bo} (h:jO (dF c) bP=[L]) (hL:b8 P ρ N c L):∀K∈jO (dF c) bP,b8 P ρ N c K:=fun K hK=>by
 rw[h]at hK
 rw[List.mem_singleton.1 hK];exact hL
theorem Wg {P:Program} {ρ:aa} {N:Nat} {c:Code} {Ls bP:List bo} (h:jO (dF c) bP=Ls) (hL:∀L∈Ls,b8 P ρ N c L):∀K∈jO (dF c) bP,b8 P ρ N c K:=fun K hK=>by
 rw[h]at hK
 exact hL K hK
theorem pN {P:Program} {ρ:aa} {f:FuncId} {i:qu} {fn:Func} {bP:List bo} (hi:j6 P f i) (hf:P.funcs[f]? = some fn) (h:a5 P ρ fn.ntmps bP (fn.body.getD .skip)):a5 P ρ i.ntmps bP i.body:=by
 obtain⟨avW,g1,g2,_,g4,_⟩:=hi
 rw[hf]at g1
 cases g1
 rw[<-g4]
 rw[g2]at h
 exact h
end Go.Proofs.Xw
namespace Go.Proofs.Xw
open Go Go.Proofs.Aw
def pg:BE->BE
 | .not a=>pg a
 | .and a _=>pg a
 | .or a _=>pg a
 | .ite c _ _=>pg c
 | e=>e
def asG:BE->BE->Bool
 | .lt a b,.lt c d=>a.beq c||(a.beq d||(b.beq c||b.beq d))
 | .lt a b,.eq c d=>a.beq c||(a.beq d||(b.beq c||b.beq d))
 | .eq a b,.lt c d=>a.beq c||(a.beq d||(b.beq c||b.beq d))
 | .eq a b,.eq c d=>a.beq c||(a.beq d||(b.beq c||b.beq d))
 | a,b=>a.beq b
def oN (w:Bool) (c:BE):J->J
 | []=>[]
 | p::B=>if(w||asG c p.1)=true then p::oN w c B else oN w c B
theorem G6 {ρ:aa} {w:Bool} {c:BE}:∀{B:J},J.ok ρ B->J.ok ρ (oN w c B)
 | [],h=>h
 | p::B,h=>by
  have A:=J.wj h
  unfold oN
  split
  ·exact fun q hq=>by
    rcases List.mem_cons.1 hq with rfl | hq
    ·exact A.1
    ·exact G6 A.2 q hq
  ·exact G6 A.2
def nH (w:Bool):Nat->J->List BE->BE->Bool
 | 0,_,_,_=>false
 | n+1,B,hs,e=>match e with
  | .lit b=>b
  | e=>match hs with
   | []=>nH w n (assume (pg e) true B) [] (red (oN w (pg e) (assume (pg e) true B)) e)&&nH w n (assume (pg e) false B) [] (red (oN w (pg e) (assume (pg e) false B)) e)
   | h::hs=>match red (oN w h B) h with
    | .lit _=>nH w n B hs e
    | h=>nH w n (assume h true B) hs (red (oN w h (assume h true B)) e)&&nH w n (assume h false B) hs (red (oN w h (assume h false B)) e)
theorem ue {ρ:aa} {w:Bool}:∀(n:Nat) (B:J) (hs:List BE) (e:BE),nH w n B hs e=true->J.ok ρ B->e.I ρ=true
 | 0,_,_,_,h,_=>by cases h
 | n+1,B,hs,e,h,u=>by
  have both:∀(c:BE) (cB:List BE),(nH w n (assume c true B) cB (red (oN w c (assume c true B)) e)&&nH w n (assume c false B) cB (red (oN w c (assume c false B)) e))=true->e.I ρ=true:=fun c cB h=>by
   rw[Bool.and_eq_true]at h
   cases H:c.I ρ with
   | true =>
    have aJ:=gu c true B H u
    rw[<-dc (G6 aJ) e]
    exact ue n _ cB _ h.1 aJ
   | false =>
    have aJ:=gu c false B H u
    rw[<-dc (G6 aJ) e]
    exact ue n _ cB _ h.2 aJ
  unfold nH at h
  split at h
  ·exact h
  ·split at h
   ·exact both _ _ h
   ·split at h
    ·exact ue n B _ _ h u
    ·exact both _ _ h
theorem ud {w:Bool} {n:Nat} {hs:List BE} {a b:BE} (h:nH w n [] hs (.ite a b (.not b))=true) (ρ:aa):a.I ρ=b.I ρ:=by
 have:=ue (ρ:=ρ) n [] hs _ h (J.bq ρ)
 simp only[BE.I]at this
 cases ha:BE.I ρ a<;>cases hb:BE.I ρ b<;>rw[ha,hb]at this<;>simp_all
def nD (B:J) (p:BE×Bool):Bool:=match red B p.1 with
 | .lit b=>b==p.2
 | _=>false
theorem rZ {ρ:aa} {B:J} (u:J.ok ρ B) {p:BE×Bool} (h:nD B p=true):p.1.I ρ=p.2:=by
 unfold nD at h
 split at h
 ·rename_i b hb
  rw[<-dc u,hb]
  exact eq_of_beq h
 ·cases h
end Go.Proofs.Xw
namespace Go.Proofs.Xw
open Go Go.Proofs.Aw
structure pd (bG:Bind) (ρ G:aa):Prop where
 i:∀k,bh k bG.i=none->G.i k=ρ.i k
 b:∀k,bh k bG.b=none->G.b k=ρ.b k
 s:∀k,bh k bG.s=none->G.s k=ρ.s k
 r:∀k,bh k bG.r=none->G.len k=ρ.len k/\G.ci k=ρ.ci k/\G.cb k=ρ.cb k/\G.cs k=ρ.cs k
 c:G.ct=ρ.ct
theorem pd.refl (bG:Bind) (ρ:aa):pd bG ρ ρ:=⟨fun _ _=>rfl,fun _ _=>rfl,fun _ _=>rfl,fun _ _=>⟨rfl,rfl,rfl,rfl⟩,rfl⟩
theorem pd.trans {bG:Bind} {a b c:aa} (h:pd bG a b) (k:pd bG b c):pd bG a c :=
  ⟨fun j M=>(k.i j M).trans (h.i j M),fun j M=>(k.b j M).trans (h.b j M),fun j M=>(k.s j M).trans (h.s j M),
   fun j M=>⟨(k.r j M).1.trans (h.r j M).1,(k.r j M).2.1.trans (h.r j M).2.1,(k.r j M).2.2.1.trans (h.r j M).2.2.1,(k.r j M).2.2.2.trans (h.r j M).2.2.2⟩,k.c.trans h.c⟩
theorem pd.of {bG β:Bind} (h:bG.same β=true) (ρ:aa):pd bG ρ (β.ap ρ):=by
 simp only[Bind.same,Bool.and_eq_true]at h
 obtain⟨s1,s2,s3,s4⟩:=h
 refine⟨fun k u => ?_,fun k u => ?_,fun k u => ?_,fun k u=>⟨?_,?_,?_,?_⟩,rfl⟩
 ·simp only[Bind.ap,(kK s1).1 u]
 ·simp only[Bind.ap,(kK s2).1 u]
 ·simp only[Bind.ap,(kK s3).1 u]
 ·simp only[Bind.ap,(kK s4).1 u]
 ·funext a b;simp only[Bind.ap,(kK s4).1 u]
 ·funext a b;simp only[Bind.ap,(kK s4).1 u]
 ·funext a b;simp only[Bind.ap,(kK s4).1 u]
theorem pd.init {n:Nat} {bG:Bind} (hi:bG.au n=true) {ρ G:aa} (h:pd bG ρ G) (ch:aA n G ρ):bG.ap G=bG.ap ρ:=by
 simp only[Bind.au,Bool.and_eq_true]at hi
 obtain⟨A,E,h3,h4⟩:=hi
 obtain⟨i1,ot,vE,jK,M6⟩:=h
 have ext:∀{a b:aa},a.i=b.i->a.b=b.b->a.s=b.s->a.len=b.len->a.ci=b.ci->a.cb=b.cb->a.cs=b.cs->a.ct=b.ct->a=b:=fun {a b} q1 q2 q3 q4 q5 q6 q7 v0=>by
  cases a;cases b;simp only at q1 q2 q3 q4 q5 q6 q7 v0;subst q1 q2 q3 q4 q5 q6 q7 v0;rfl
 refine ext ?_ ?_ ?_ ?_ ?_ ?_ ?_ M6
 ·funext k;simp only[Bind.ap]
  cases F:bh k bG.i with
  | none=>exact i1 k F
  | some e=>exact U.aP ch e (hg A F)
 ·funext k;simp only[Bind.ap]
  cases F:bh k bG.b with
  | none=>exact ot k F
  | some e=>exact BE.aP ch e (hg E F)
 ·funext k;simp only[Bind.ap]
  cases F:bh k bG.s with
  | none=>exact vE k F
  | some e=>exact TE.aP ch e (hg h3 F)
 ·funext k;simp only[Bind.ap]
  cases F:bh k bG.r with
  | none=>exact(jK k F).1
  | some e =>
   have:=hg h4 F
   simp only[Bool.and_eq_true]at this
   exact congrArg Int.toNat (U.aP ch e.1 this.1)
 ·funext k a b;simp only[Bind.ap]
  cases F:bh k bG.r with
  | none=>exact congrFun (congrFun (jK k F).2.1 a) b
  | some e =>
   have:=hg h4 F
   simp only[Bool.and_eq_true]at this
   exact congrArg (fun r:List AV=>aH r[a]?) (RL.iR ch e.2 b this.2)
 ·funext k a b;simp only[Bind.ap]
  cases F:bh k bG.r with
  | none=>exact congrFun (congrFun (jK k F).2.2.1 a) b
  | some e =>
   have:=hg h4 F
   simp only[Bool.and_eq_true]at this
   exact congrArg (fun r:List AV=>dS r[a]?) (RL.iR ch e.2 b this.2)
 ·funext k a b;simp only[Bind.ap]
  cases F:bh k bG.r with
  | none=>exact congrFun (congrFun (jK k F).2.2.2 a) b
  | some e =>
   have:=hg h4 F
   simp only[Bool.and_eq_true]at this
   exact congrArg (fun r:List AV=>cellS r[a]?) (RL.iR ch e.2 b this.2)
def js (P:Program) (N:Nat) (body:Code) (k0:Nat) (S:XS) (out:T (XE×XS)) (ρ:aa):Prop :=
 ∀ac:Aw.Env,ac.N=N->(∀m,ac.c0.kn m->m.1<k0)->AW P ac body (fun e V=>∃e' s,e'≠XE.normal/\out.aq ρ=some (e',s)/\e=e'.to/\dL ac V (s.I ρ)) (S.I ρ)
def Ix (β:Bind) (B:J) (p:BE×Bool):Bool:=match fA β p.1 with
 | some e=>nD B (e,p.2)
 | none=>false
theorem arh {β:Bind} {ρ:aa} {B b6:J} (u:J.ok ρ B) (h:b6.all (Ix β B)=true):J.ok (β.ap ρ) b6:=fun p hp=>by
 have A:=List.all_eq_true.1 h p hp
 unfold Ix at A
 split at A
 ·rename_i e F
  rw[<-nA F]
  exact rZ u A
 ·cases A
mutual
def WJ:X->X->Bind->Bind
 | .sc (.i _ (.var k)),.sc (.i _ e),β=>⟨(k,e)::β.i,β.b,β.s,β.r⟩
 | .sc (.b (.var k)),.sc (.b e),β=>⟨β.i,(k,e)::β.b,β.s,β.r⟩
 | .sc (.s (.var k)),.sc (.s e),β=>⟨β.i,β.b,(k,e)::β.s,β.r⟩
 | .agg xs,.agg ys,β=>Of xs ys β
 | .slv _ _ (.var o) (.var l) _,.slv _ _ o' l' _,β=>⟨(o,o')::(l,l')::β.i,β.b,β.s,β.r⟩
 | .slv _ _ (.var o) (.var l) _,.sl _ _ _ l' _,β=>⟨(o,.lit 0)::(l,.lit l')::β.i,β.b,β.s,β.r⟩
 | _,_,β=>β
def Of:List X->List X->Bind->Bind
 | x::xs,y::ys,β=>WJ x y (Of xs ys β)
 | _,_,β=>β
end
def WI (s:bf):bf->Bind->Bind
 | [],β=>β
 | (j,x)::r,β=>WJ x (b3 s j) (WI s r β)
def Ng (aC:Nat) (β:Bind):Bool:=match bh aC β.i with
 | some e=>e.beq (.op .add .i64 (.var aC) (.lit 1))
 | none=>false
end Go.Proofs.Xw
namespace Go.Proofs.Xw
open Go Go.Proofs.Aw
structure j7 where
 l:List (U×Int)
 c:Int
noncomputable def r9 (ρ:aa):List (U×Int)->Int
 | []=>0
 | (e,k)::r=>k*e.I ρ+r9 ρ r
noncomputable def j7.I (ρ:aa) (x:j7):Int:=r9 ρ x.l+x.c
def El (e:U) (s:Int):List (U×Int)->List (U×Int)
 | []=>[(e,s)]
 | (d,k)::r=>if d.beq e=true then(d,k+s)::r else(d,k)::El e s r
theorem R5 (ρ:aa) (e:U) (s:Int):∀l,r9 ρ (El e s l)=s*e.I ρ+r9 ρ l
 | []=>rfl
 | (d,k)::r=>by
  unfold El
  split
  ·rename_i h
   rw[<-U.beq_eq _ _ h]
   simp only[r9,Int.add_mul];omega
  ·simp only[r9,R5 ρ e s r];omega
def kL:U->Int->j7->j7
 | .lit n,s,x=>⟨x.l,x.c+s*n⟩
 | .op .cY _ a b,s,x=>kL a s (kL b s x)
 | .op .fT _ a b,s,x=>kL a s (kL b (-s) x)
 | .op .nw _ (.lit n) b,s,x=>kL b (s*n) x
 | e,s,x=>⟨El e s x.l,x.c⟩
theorem GB (ρ:aa) (e:U) (s:Int) (x:j7):(kL e s x).I ρ=s*e.I ρ+x.I ρ:=by
 fun_induction kL e s x with
 | case1 n s x=>simp only[j7.I,U.I];omega
 | case2 k a b s x es ex=>rw[ex,es];simp only[U.I,a_.I,Int.mul_add];omega
 | case3 k a b s x es ex=>rw[ex,es];simp only[U.I,a_.I,Int.mul_sub,Int.neg_mul];omega
 | case4 k n b s x ih=>rw[ih];simp only[U.I,a_.I,Int.mul_assoc]
 | case5=>simp only[j7.I,R5];omega
def Et:List (U×Int)->Bool
 | []=>true
 | (_,k)::r=>k==0&&Et r
theorem R6 (ρ:aa):∀l,Et l=true->r9 ρ l=0
 | [],_=>rfl
 | (e,k)::r,h=>by
  simp only[Et,Bool.and_eq_true,beq_iff_eq]at h
  simp only[r9,h.1,R6 ρ r h.2,Int.zero_mul];rfl
def j7.Kx (x:j7):Option Int:=if Et x.l=true then some x.c else none
theorem j7.ad9 {ρ:aa} {x:j7} {k:Int} (h:x.Kx=some k):x.I ρ=k:=by
 unfold j7.Kx at h
 split at h
 ·rename_i hz
  cases h
  simp only[j7.I,R6 ρ _ hz,Int.zero_add]
 ·cases h
def kg (a b c d:U):Option Int:=(kL a 1 (kL b (-1) (kL c (-1) (kL d 1 ⟨[],0⟩)))).Kx
theorem lg {ρ:aa} {a b c d:U} {k:Int} (h:kg a b c d=some k):a.I ρ-b.I ρ=c.I ρ-d.I ρ+k:=by
 have:=j7.ad9 (ρ:=ρ) (x:=kL a 1 (kL b (-1) (kL c (-1) (kL d 1 ⟨[],0⟩)))) h
 rw[GB,GB,GB,GB]at this
 simp only[j7.I,r9]at this
 omega
def O5 (a b:U):BE×Bool->Option Bool
 | (.lt c d,true)=>match kg a b c d with
  | some k=>if decide (k<=0)then some true else none
  | none=>match kg a b d c with
   | some k=>if decide (-1<=k)then some false else none
   | none=>none
 | (.lt c d,false)=>match kg a b c d with
  | some k=>if decide (0<=k)then some false else none
  | none=>match kg a b d c with
   | some k=>if decide (k<0)then some true else none
   | none=>none
 | (.eq c d,true)=>match kg a b c d with
  | some k=>some (decide (k<0))
  | none=>match kg a b d c with
   | some k=>some (decide (k<0))
   | none=>none
 | _=>none
theorem ald {ρ:aa} {a b:U} {p:BE×Bool} {r:Bool} (hp:p.1.I ρ=p.2) (h:O5 a b p=some r):decide (a.I ρ<b.I ρ)=r:=by
 unfold O5 at h
 split at h
 ·rename_i c d
  have hp:=of_decide_eq_true hp
  split at h
  ·rename_i k u
   have:=lg (ρ:=ρ) u
   split at h
   ·rename_i H;have H:=of_decide_eq_true H;cases h;exact decide_eq_true (by omega)
   ·cases h
  ·split at h
   ·rename_i k u
    have:=lg (ρ:=ρ) u
    split at h
    ·rename_i H;have H:=of_decide_eq_true H;cases h;exact decide_eq_false (by omega)
    ·cases h
   ·cases h
 ·rename_i c d
  have hp:=of_decide_eq_false hp
  split at h
  ·rename_i k u
   have:=lg (ρ:=ρ) u
   split at h
   ·rename_i H;have H:=of_decide_eq_true H;cases h;exact decide_eq_false (by omega)
   ·cases h
  ·split at h
   ·rename_i k u
    have:=lg (ρ:=ρ) u
    split at h
    ·rename_i H;have H:=of_decide_eq_true H;cases h;exact decide_eq_true (by omega)
    ·cases h
   ·cases h
 ·rename_i c d
  simp only[BE.I,beq_iff_eq]at hp
  split at h
  ·rename_i k u
   have:=lg (ρ:=ρ) u
   cases h
   exact decide_eq_decide.2 ⟨fun h=>by omega,fun h=>by omega⟩
  ·split at h
   ·rename_i k u
    have:=lg (ρ:=ρ) u
    cases h
    exact decide_eq_decide.2 ⟨fun h=>by omega,fun h=>by omega⟩
   ·cases h
 ·cases h
def O4 (a b:U):BE×Bool->Option Bool
 | (.lt c d,true)=>match kg a b c d with
  | some k=>if decide (k<=0)then some false else none
  | none=>match kg a b d c with
   | some k=>if decide (0<=k)then some false else none
   | none=>none
 | (.lt c d,false)=>match kg a b c d with
  | some k=>if decide (0<k)then some false else none
  | none=>match kg a b d c with
   | some k=>if decide (k<0)then some false else none
   | none=>none
 | (.eq c d,v)=>match kg a b c d with
  | some k=>if k==0 then some v else if v=true then some false else none
  | none=>match kg a b d c with
   | some k=>if k==0 then some v else if v=true then some false else none
   | none=>none
 | _=>none
theorem alc {ρ:aa} {a b:U} {p:BE×Bool} {r:Bool} (hp:p.1.I ρ=p.2) (h:O4 a b p=some r):(a.I ρ==b.I ρ)=r:=by
 unfold O4 at h
 split at h
 ·rename_i c d
  have hp:=of_decide_eq_true hp
  split at h
  ·rename_i k u
   have:=lg (ρ:=ρ) u
   split at h
   ·rename_i H;have H:=of_decide_eq_true H;cases h;exact beq_eq_false_iff_ne.2 (by omega)
   ·cases h
  ·split at h
   ·rename_i k u
    have:=lg (ρ:=ρ) u
    split at h
    ·rename_i H;have H:=of_decide_eq_true H;cases h;exact beq_eq_false_iff_ne.2 (by omega)
    ·cases h
   ·cases h
 ·rename_i c d
  have hp:=of_decide_eq_false hp
  split at h
  ·rename_i k u
   have:=lg (ρ:=ρ) u
   split at h
   ·rename_i H;have H:=of_decide_eq_true H;cases h;exact beq_eq_false_iff_ne.2 (by omega)
   ·cases h
  ·split at h
   ·rename_i k u
    have:=lg (ρ:=ρ) u
    split at h
    ·rename_i H;have H:=of_decide_eq_true H;cases h;exact beq_eq_false_iff_ne.2 (by omega)
    ·cases h
   ·cases h
 ·rename_i c d v
  simp only[BE.I]at hp
  have fin:∀{k:Int},(a.I ρ-b.I ρ=c.I ρ-d.I ρ+k\/a.I ρ-b.I ρ=d.I ρ-c.I ρ+k)->(if(k==0)=true then some v else if v=true then some false else none)=some r->(a.I ρ==b.I ρ)=r:=by
   intro k u h
   split at h
   ·rename_i h0
    cases h
    simp only[beq_iff_eq]at h0
    rw[<-hp,Bool.eq_iff_iff]
    simp only[beq_iff_eq]
    constructor
    ·intro h;omega
    ·intro h;omega
   ·rename_i h0
    simp only[beq_iff_eq]at h0
    split at h
    ·rename_i R
     cases h
     rw[R]at hp
     simp only[beq_iff_eq]at hp
     exact beq_eq_false_iff_ne.2 (by omega)
    ·cases h
  split at h
  ·rename_i k u
   exact fin (.inl (lg u)) h
  ·split at h
   ·rename_i k u
    exact fin (.inr (lg u)) h
   ·cases h
 ·cases h
def z8 (f:BE×Bool->Option Bool):J->Option Bool
 | []=>none
 | p::B=>rO (f p) (z8 f B)
theorem JP {ρ:aa} {f:BE×Bool->Option Bool} {Q:Bool->Prop} (hf:∀p r,p.1.I ρ=p.2->f p=some r->Q r):∀{B:J} {r:Bool},J.ok ρ B->z8 f B=some r->Q r
 | [],_,_,h=>by cases h
 | p::B,r,u,h=>by
  have A:=J.wj u
  simp only[z8]at h
  cases e:f p with
  | some v=>rw[e]at h;cases h;exact hf p _ A.1 e
  | none=>rw[e]at h;exact JP hf A.2 h
def NO (B:J) (a b:U):Option Bool:=match kg a b (.lit 0) (.lit 0)with
 | some k=>some (decide (k<0))
 | none=>z8 (O5 a b) B
theorem ah7 {ρ:aa} {B:J} (u:J.ok ρ B) {a b:U} {r:Bool} (h:NO B a b=some r):decide (a.I ρ<b.I ρ)=r:=by
 unfold NO at h
 split at h
 ·rename_i k e
  have:=lg (ρ:=ρ) e
  simp only[U.I]at this
  cases h
  exact decide_eq_decide.2 ⟨fun h=>by omega,fun h=>by omega⟩
 ·exact JP (Q:=fun r=>decide (a.I ρ<b.I ρ)=r) (fun p r hp=>ald hp) u h
def NN (B:J) (a b:U):Option Bool:=match kg a b (.lit 0) (.lit 0)with
 | some k=>some (k==0)
 | none=>z8 (O4 a b) B
theorem ah6 {ρ:aa} {B:J} (u:J.ok ρ B) {a b:U} {r:Bool} (h:NN B a b=some r):(a.I ρ==b.I ρ)=r:=by
 unfold NN at h
 split at h
 ·rename_i k e
  have:=lg (ρ:=ρ) e
  simp only[U.I]at this
  cases h
  rw[Bool.eq_iff_iff]
  simp only[beq_iff_eq]
  constructor
  ·intro h;omega
  ·intro h;omega
 ·exact JP (Q:=fun r=>(a.I ρ==b.I ρ)=r) (fun p r hp=>alc hp) u h
def Fh (B:J) (o p:a_) (k:IntKind) (a b:U):U:=if(mw k .i64&&rj (fM B (.op p .i64 a b)))=true then .op p .i64 a b else .op o k a b
theorem TX {ρ:aa} {B:J} (u:J.ok ρ B) {o p:a_} (ho:∀x y,o.I .i64 x y=IntKind.i64.wrap (p.I .i64 x y)) (k:IntKind) (a b:U):(Fh B o p k a b).I ρ=o.I k (a.I ρ) (b.I ρ):=by
 unfold Fh
 split
 ·rename_i h
  rw[Bool.and_eq_true]at h
  rw[ox h.1,ho]
  have:=vK (g' u (.op p .i64 a b)) h.2
  simp only[U.I]at this ⊢
  exact this.symm
 ·rfl
def Lw (B:J) (k:IntKind) (a b:U):U:=if(mw k .i64&&rj (fM B (mkMul a b)))=true then mkMul a b else .op .mul k a b
theorem ae4 {ρ:aa} {B:J} (u:J.ok ρ B) (k:IntKind) (a b:U):(Lw B k a b).I ρ=a_.I .mul k (a.I ρ) (b.I ρ):=by
 unfold Lw
 split
 ·rename_i h
  rw[Bool.and_eq_true]at h
  rw[ox h.1]
  have:=vK (g' u (mkMul a b)) h.2
  rw[yJ]at this ⊢
  exact this.symm
 ·rfl
def Lu (B:J) (k:IntKind) (a b:U):U:=if(mw k .i64&&rj (fM B a))=true then a else .op .conv k a b
theorem ae2 {ρ:aa} {B:J} (u:J.ok ρ B) (k:IntKind) (a b:U):(Lu B k a b).I ρ=a_.I .conv k (a.I ρ) (b.I ρ):=by
 unfold Lu
 split
 ·rename_i h
  rw[Bool.and_eq_true]at h
  rw[ox h.1]
  exact(vK (g' u a) h.2).symm
 ·rfl
def Lv (B:J) (k:IntKind) (a b:U):U:=match red B (mkLt a b)with
 | .lit true=>b
 | .lit false=>a
 | _=>match red B (mkLt b a)with
  | .lit true=>a
  | .lit false=>b
  | _=>ia .max k a b
theorem ae3 {ρ:aa} {B:J} (u:J.ok ρ B) (k:IntKind) (a b:U):(Lv B k a b).I ρ=a_.max.I k (a.I ρ) (b.I ρ):=by
 have A:=dc u (mkLt a b)
 have E:=dc u (mkLt b a)
 rw[hh]at A E
 unfold Lv
 split
 ·rename_i e1
  rw[e1]at A
  have:=of_decide_eq_true (show decide (a.I ρ<b.I ρ)=true from A.symm)
  simp only[a_.I];omega
 ·rename_i e1
  rw[e1]at A
  have:=of_decide_eq_false (show decide (a.I ρ<b.I ρ)=false from A.symm)
  simp only[a_.I];omega
 ·split
  ·rename_i e1
   rw[e1]at E
   have:=of_decide_eq_true (show decide (b.I ρ<a.I ρ)=true from E.symm)
   simp only[a_.I];omega
  ·rename_i e1
   rw[e1]at E
   have:=of_decide_eq_false (show decide (b.I ρ<a.I ρ)=false from E.symm)
   simp only[a_.I];omega
  ·exact oG _ _ _ _ _
def Lt (B:J):a_->IntKind->U->U->U
 | .add,k,a,b=>Fh B .add .cY k a b
 | .sub,k,a,b=>Fh B .sub .fT k a b
 | .mul,k,a,b=>Lw B k a b
 | .conv,k,a,b=>Lu B k a b
 | .nw,_,a,b=>mkMul a b
 | .max,k,a,b=>Lv B k a b
 | o,k,a,b=>ia o k a b
theorem ae1 {ρ:aa} {B:J} (u:J.ok ρ B) (o:a_) (k:IntKind) (a b:U):(Lt B o k a b).I ρ=o.I k (a.I ρ) (b.I ρ):=by
 unfold Lt
 split
 ·exact TX u (fun _ _=>rfl) _ _ _
 ·exact TX u (fun _ _=>rfl) _ _ _
 ·exact ae4 u _ _ _
 ·exact ae2 u _ _ _
 ·rw[yJ];rfl
 ·exact ae3 u _ _ _
 ·exact oG _ _ _ _ _
def O_ (B:J) (a b:U):BE:=match NO B a b with
 | some v => .lit v
 | none=>red B (mkLt a b)
def O9 (B:J) (a b:U):BE:=match NN B a b with
 | some v => .lit v
 | none=>red B (mkEq a b)
theorem alg {ρ:aa} {B:J} (u:J.ok ρ B) (a b:U):(O_ B a b).I ρ=decide (a.I ρ<b.I ρ):=by
 unfold O_
 split
 ·rename_i v h;rw[ah7 u h];rfl
 ·rw[dc u,hh]
theorem alf {ρ:aa} {B:J} (u:J.ok ρ B) (a b:U):(O9 B a b).I ρ=(a.I ρ==b.I ρ):=by
 unfold O9
 split
 ·rename_i v h;rw[ah6 u h];rfl
 ·rw[dc u,eX]
theorem B1 {ρ:aa} {c:BE} {a b:U} (h:c.I ρ=true):(U.ite c a b).I ρ=a.I ρ:=by simp only[U.I,h,if_true]
theorem Gh {ρ:aa} {c:BE} {a b:U} (h:c.I ρ=false):(U.ite c a b).I ρ=b.I ρ:=by simp only[U.I,h,Bool.false_eq_true,if_false]
def ET (B:J) (e:U):Nat->U->U
 | k,.ite c a b=>match c with
  | .eq x y=>if(x.beq e&&y.beq (.lit k))=true then(match red B (mkLt (.lit k) e)with
    | .lit false=>a
    | _ => .ite c a (ET B e (k+1) b))else .ite c a b
  | _ => .ite c a b
 | _,t=>t
theorem SI {ρ:aa} {B:J} (u:J.ok ρ B) {e:U}:∀(t:U) (k:Nat),(k:Int)<=e.I ρ->(ET B e k t).I ρ=t.I ρ
 | .ite c a b,k,h=>by
  unfold ET
  split
  ·rename_i x y
   split
   ·rename_i hb
    rw[Bool.and_eq_true]at hb
    have A:=U.beq_eq _ _ hb.1
    have E:=U.beq_eq _ _ hb.2
    subst A E
    have hr:=dc u (mkLt (.lit k) x)
    split
    ·rename_i F
     rw[F,hh]at hr
     have hr:decide ((k:Int)<x.I ρ)=false:=hr.symm
     have hr:=of_decide_eq_false hr
     have e1:(BE.eq x (.lit k)).I ρ=true:=by simp only[BE.I,U.I,beq_iff_eq];omega
     exact(B1 e1).symm
    ·cases hx:(BE.eq x (.lit k)).I ρ with
     | true=>exact(B1 hx).trans (B1 hx).symm
     | false =>
      have h3:¬x.I ρ=k:=by simpa [BE.I,U.I]using hx
      exact(Gh hx).trans ((SI u b (k+1) (by omega)).trans (Gh hx).symm)
   ·rfl
  ·rfl
 | .lit _,_,_ | .var _,_,_ | .cl _ _ _,_,_ | .len _,_,_ | .cm _,_,_ | .fJ _ _,_,_ | .op _ _ _ _,_,_ | .uf _ _ _,_,_=>rfl
def Kj (B:J) (t:U):U:=match t with
 | .ite (.eq x y) _ _=>if y.beq (.lit 0)=true then(match red B (mkLt x (.lit 0))with
  | .lit false=>ET B x 0 t
  | _=>t)else t
 | t=>t
theorem adZ {ρ:aa} {B:J} (u:J.ok ρ B) (t:U):(Kj B t).I ρ=t.I ρ:=by
 unfold Kj
 split
 ·rename_i x y a b
  split
  ·have hr:=dc u (mkLt x (.lit 0))
   split
   ·rename_i F
    rw[F,hh]at hr
    simp only[BE.I,U.I]at hr
    have hr:=of_decide_eq_false hr.symm
    exact SI u _ 0 (by simp only[Int.ofNat_zero]at *;omega)
   ·rfl
  ·rfl
 ·rfl
mutual
def nC (B:J):U->U
 | .op o k a b=>Lt B o k (nC B a) (nC B b)
 | .ite c a b=>Kj B (lF (fB B c) (nC B a) (nC B b))
 | e=>e
def fB (B:J):BE->BE
 | .lt a b=>O_ B (nC B a) (nC B b)
 | .eq a b=>O9 B (nC B a) (nC B b)
 | .not a=>mkNot (fB B a)
 | .and a b=>mkAnd (fB B a) (fB B b)
 | .or a b=>mkOr (fB B a) (fB B b)
 | .ite c a b=>iF (fB B c) (fB B a) (fB B b)
 | e=>red B e
end
mutual
theorem rS {ρ:aa} {B:J} (u:J.ok ρ B):∀e:U,(nC B e).I ρ=e.I ρ
 | .op o k a b=>by simp only[nC,ae1 u,rS u a,rS u b,U.I]
 | .ite c a b=>by simp only[nC,adZ u,tw,oQ u c,rS u a,rS u b,U.I]
 | .lit _=>rfl
 | .var _=>rfl
 | .cl _ _ _=>rfl
 | .len _=>rfl
 | .cm _=>rfl
 | .fJ _ _=>rfl
 | .uf _ _ _=>rfl
theorem oQ {ρ:aa} {B:J} (u:J.ok ρ B):∀e:BE,(fB B e).I ρ=e.I ρ
 | .lt a b=>by simp only[fB,alg u,rS u a,rS u b,BE.I]
 | .eq a b=>by simp only[fB,alf u,rS u a,rS u b,BE.I]
 | .not a=>by simp only[fB,eA,oQ u a,BE.I]
 | .and a b=>by simp only[fB,fQ,oQ u a,oQ u b,BE.I]
 | .or a b=>by simp only[fB,oI,oQ u a,oQ u b,BE.I]
 | .ite c a b=>by simp only[fB,kM,oQ u c,oQ u a,oQ u b,BE.I]
 | .lit _=>dc u _
 | .var _=>dc u _
 | .cl _ _ _=>dc u _
 | .seq _ _=>dc u _
 | .slt _ _=>dc u _
end
def tg:BE->Bool
 | .lit b=>b
 | _=>false
theorem xq {ρ:aa} {B:J} (u:J.ok ρ B) {e:BE} (h:tg (fB B e)=true):e.I ρ=true:=by
 rw[<-oQ u e]
 unfold tg at h
 split at h
 ·rename_i b hb;rw[hb];exact h
 ·cases h
end Go.Proofs.Xw
namespace Go.Proofs.Xw
open Go Go.Proofs.Aw
def gJ:Bind:=⟨[],[],[],[]⟩
theorem W8 (ρ:aa):gJ.ap ρ=ρ:=rfl
def ei (P:Program) (N:Nat) (body:Code) (k0:Nat) (S S':XS) (ρ G:aa):Prop :=
 ∀ac:Aw.Env,ac.N=N->(∀m,ac.c0.kn m->m.1<k0)->AW P ac body (fun e V=>e=XE.normal.to/\dL ac V (S'.I G)) (S.I ρ)
def W2 (s:bf):bf->List (Nm×Nm)
 | []=>[]
 | (j,x)::r=>W3 x (b3 s j) (W2 s r)
def OE (S s:av):List (Nm×Nm)->List (Nm×Nm)->List (Nm×Nm)
 | [],cS=>cS
 | (a,b)::r,cS=>OE S s r (match bl S a,bl s b with
  | some cs,some ds=>rG cs ds cS
  | _,_=>cS)
def rowsOf (z:Nat):Nat->List X->Option RL
 | 0,_=>none
 | 1,l=>(o5 (l.take z)).map RL.one
 | n+1,l=>match o5 (l.take z),rowsOf z n (l.drop z)with
  | some r,some q=>some (.app (.lit 1) (.one r) q)
  | _,_=>none
def mtO (cs ds:List X) (β:Bind):Bind :=
 match cs,ds with
 | [.rows z (.len _) (.var L _)],[.rows _ m r]=>if Nat.beq z 0=true then β else⟨β.i,β.b,β.s,(L,m,r)::β.r⟩
 | [.rows z (.len _) (.var L _)],ds=>match rowsOf z (ds.length / z) ds with
  | some r=>⟨β.i,β.b,β.s,(L,.lit (ds.length / z:Nat),r)::β.r⟩
  | none=>β
 | cs,ds=>Of cs ds β
def Oe (nm:List (Nm×Nm)) (s:av):av->Bind->Bind
 | [],β=>β
 | (j,cs)::r,β=>match bl s (e9 nm j)with
  | some ds=>mtO cs ds (Oe nm s r β)
  | none=>Oe nm s r β
def adE (nm:List (Nm×Nm)) (S s:XS):Bind:=Oe nm s.h S.h (WI s.t S.t gJ)
theorem ei.from {P:Program} {N:Nat} {body:Code} {k0:Nat} {S S':XS} {ρ bT G:aa} (h:S.I ρ=S.I bT) (k:ei P N body k0 S S' bT G):ei P N body k0 S S' ρ G:=fun ac hE hb=>by
 rw[h];exact k ac hE hb
end Go.Proofs.Xw
namespace Go.Proofs.Xw
open Go Go.Proofs.Aw
end Go.Proofs.Xw
namespace Go.Proofs.Xw
open Go Go.Proofs.Aw
mutual
def X.yP:X->Bool
 | .tk _ _ _ _ | .tq _ _ _ _ _ | .cQ _ _ _=>false
 | .agg cs | .tup cs | .ip cs _ _=>X.rK cs
 | .ro _ D _=>X.Ha D
 | .fn _ xs ys=>X.rK xs&&X.rK ys
 | .gd _ x=>x.yP
 | _=>true
def X.rK:List X->Bool
 | []=>true
 | x::xs=>x.yP&&X.rK xs
def X.Ha:List (List X)->Bool
 | []=>true
 | e::D=>X.rK e&&X.Ha D
end
def aa.tok (ρ:aa) (c:Nat->Nat->Nat->NA):aa:={ ρ with ct:=c }
mutual
theorem U.bL (ρ:aa) (c:Nat->Nat->Nat->NA):∀e:U,e.I (ρ.tok c)=e.I ρ
 | .lit _=>rfl
 | .var _=>rfl
 | .cl l k j=>by simp only[U.I,U.bL ρ c j];rfl
 | .len _=>rfl
 | .cm t=>by simp only[U.I,TE.bL ρ c t]
 | .fJ t j=>by simp only[U.I,TE.bL ρ c t,U.bL ρ c j]
 | .op _ _ a b=>by simp only[U.I,U.bL ρ c a,U.bL ρ c b]
 | .ite d a b=>by simp only[U.I,BE.bL ρ c d,U.bL ρ c a,U.bL ρ c b]
 | .uf _ _ a=>by simp only[U.I,AL.bL ρ c a]
theorem AL.bL (ρ:aa) (c:Nat->Nat->Nat->NA):∀e:AL,e.I (ρ.tok c)=e.I ρ
 | .nil=>rfl
 | .i e r=>by simp only[AL.I,U.bL ρ c e,AL.bL ρ c r]
 | .b e r=>by simp only[AL.I,BE.bL ρ c e,AL.bL ρ c r]
 | .s e r=>by simp only[AL.I,TE.bL ρ c e,AL.bL ρ c r]
theorem BE.bL (ρ:aa) (c:Nat->Nat->Nat->NA):∀e:BE,e.I (ρ.tok c)=e.I ρ
 | .lit _=>rfl
 | .var _=>rfl
 | .cl l k j=>by simp only[BE.I,U.bL ρ c j];rfl
 | .lt a b=>by simp only[BE.I,U.bL ρ c a,U.bL ρ c b]
 | .eq a b=>by simp only[BE.I,U.bL ρ c a,U.bL ρ c b]
 | .seq a b=>by simp only[BE.I,TE.bL ρ c a,TE.bL ρ c b]
 | .slt a b=>by simp only[BE.I,TE.bL ρ c a,TE.bL ρ c b]
 | .not a=>by simp only[BE.I,BE.bL ρ c a]
 | .and a b=>by simp only[BE.I,BE.bL ρ c a,BE.bL ρ c b]
 | .or a b=>by simp only[BE.I,BE.bL ρ c a,BE.bL ρ c b]
 | .ite d a b=>by simp only[BE.I,BE.bL ρ c d,BE.bL ρ c a,BE.bL ρ c b]
theorem TE.bL (ρ:aa) (c:Nat->Nat->Nat->NA):∀e:TE,e.I (ρ.tok c)=e.I ρ
 | .lit _=>rfl
 | .var _=>rfl
 | .cl l k j=>by simp only[TE.I,U.bL ρ c j];rfl
 | .sub t a b=>by simp only[TE.I,TE.bL ρ c t,U.bL ρ c a,U.bL ρ c b]
 | .ite d a b=>by simp only[TE.I,BE.bL ρ c d,TE.bL ρ c a,TE.bL ρ c b]
end
theorem Sc.bL (ρ:aa) (c:Nat->Nat->Nat->NA) (s:Sc):s.I (ρ.tok c)=s.I ρ:=by
 cases s<;>simp only[Sc.I,U.bL,BE.bL,TE.bL]
theorem Kh (ρ:aa) (c:Nat->Nat->Nat->NA) (l j:Nat):∀(ks:List Kd) (k:Nat),bR (ρ.tok c) l k ks j=bR ρ l k ks j
 | [],_=>rfl
 | kd::ks,k=>by cases kd<;>simp only[bR,Kh ρ c l j ks (k+1)]<;>rfl
theorem Zm (ρ:aa) (c:Nat->Nat->Nat->NA) (r:List Sc):cd (ρ.tok c) r=cd ρ r:=by
 unfold cd
 exact List.map_congr_left fun s _=>by rw[Sc.bL]
theorem RL.wE (ρ:aa) (c:Nat->Nat->Nat->NA):∀(l:RL) (j:Int),l.row (ρ.tok c) j=l.row ρ j
 | .var l ks,j=>Kh ρ c l _ ks 0
 | .one r,_=>Zm ρ c r
 | .app n a b,j=>by simp only[RL.row,RL.wE ρ c a,RL.wE ρ c b,U.bL]
 | .drop n a,j=>by simp only[RL.row,RL.wE ρ c a,U.bL]
 | .eN i r a,j=>by simp only[RL.row,RL.wE ρ c a,U.bL,Zm]
 | .ite d a b,j=>by simp only[RL.row,RL.wE ρ c a,RL.wE ρ c b,BE.bL]
theorem YB (ρ:aa) (c:Nat->Nat->Nat->NA) (n:U) (l:RL):aX (ρ.tok c) n l=aX ρ n l:=by
 unfold aX
 rw[U.bL]
 exact List.map_congr_left fun j _=>RL.wE ρ c l j
theorem Kg (ρ:aa) (c:Nat->Nat->Nat->NA) (l j:Nat):∀(ks:List Nk) (k:Nat),dx (ρ.tok c) l k ks j=dx ρ l k ks j
 | [],_=>rfl
 | .f kd::ks,k=>by cases kd<;>simp only[dx,qB,Kg ρ c l j ks (k+1)]<;>rfl
 | .r z S kk::ks,k=>by
  simp only[dx,j0,Kg ρ c l j ks (k+1),Kh ρ c S]
  rfl
theorem aqD (ρ:aa) (c:Nat->Nat->Nat->NA) (n:U) (l:Nat) (ks:List Nk):fW (ρ.tok c) n l ks=fW ρ n l ks:=by
 unfold fW
 rw[U.bL]
 exact List.map_congr_left fun j _=>Kg ρ c l j ks 0
theorem Kn (ρ:aa) (c:Nat->Nat->Nat->NA) (d:Nat):∀aG,choose (ρ.tok c) aG d=choose ρ aG d
 | []=>rfl
 | (e,o)::r=>by simp only[choose,BE.bL,Kn ρ c d r]
mutual
theorem X.bL (ρ:aa) (c:Nat->Nat->Nat->NA):∀x:X,x.yP=true->x.I (ρ.tok c)=x.I ρ
 | .top,_=>rfl
 | .k _,_=>rfl
 | .sc s,_=>by simp only[X.I,Sc.bL]
 | .agg cs,h=>by simp only[X.I,X.sE ρ c cs h]
 | .tup cs,h=>by simp only[X.I,X.sE ρ c cs h]
 | .ptr _ aG d,_=>by simp only[X.I,Kn]
 | .sl _ _ _ _ _,_=>rfl
 | .ip cs aG d,h=>by simp only[X.I,X.sE ρ c cs h,Kn]
 | .ro _ D _,h=>by simp only[X.I,X.Te ρ c D h]
 | .rl _ n l _,_=>by simp only[X.I,YB]
 | .rn _ n l ks _,_=>by simp only[X.I,aqD]
 | .fn _ xs ys,h=>by
  simp only[X.yP,Bool.and_eq_true]at h
  simp only[X.I,X.sE ρ c xs h.1,X.sE ρ c ys h.2]
 | .gd e x,h=>by simp only[X.I,BE.bL,X.bL ρ c x h]
 | .rows _ _ _,_=>rfl
 | .slv _ _ _ _ _,_=>by simp only[X.I,U.bL]
 | .dz _ _ _ _,_=>by simp only[X.I,U.bL]
 | .tk _ _ _ _,h=>by cases h
 | .tq _ _ _ _ _,h=>by cases h
 | .cQ _ _ _,h=>by cases h
theorem X.sE (ρ:aa) (c:Nat->Nat->Nat->NA):∀l:List X,X.rK l=true->X.af (ρ.tok c) l=X.af ρ l
 | [],_=>rfl
 | x::xs,h=>by
  simp only[X.rK,Bool.and_eq_true]at h
  simp only[X.af,X.bL ρ c x h.1,X.sE ρ c xs h.2]
theorem X.Te (ρ:aa) (c:Nat->Nat->Nat->NA):∀l:List (List X),X.Ha l=true->X.a7 (ρ.tok c) l=X.a7 ρ l
 | [],_=>rfl
 | x::xs,h=>by
  simp only[X.Ha,Bool.and_eq_true]at h
  simp only[X.a7,X.sE ρ c x h.1,X.Te ρ c xs h.2]
end
abbrev hO:=List (Nat×U×Nat×List (List X))
def se (v:AV):NA:=if h:(Aw.ca (fun _=>false) v&&v.one)=true then⟨v,(Bool.and_eq_true _ _▸h).1,(Bool.and_eq_true _ _▸h).2⟩else kN 0 0 0
theorem IS {v:AV} (A:Aw.ca (fun _=>false) v=true) (E:v.one=true):(se v).1=v:=by
 unfold se
 rw[dif_pos (by rw[A,E];rfl)]
noncomputable def zx (ρ:aa) (m:U) (t:Nat) (D:List (List X)) (k j:Nat):NA :=
 if j<(m.I ρ).toNat then ρ.ct t k j else se (((X.a7 ρ D)[j-(m.I ρ).toNat]?.bind (·[k]?)).getD (.sc (.bool false)))
noncomputable def qk (q:hO) (ρ:aa) (t:Nat):Nat->Nat->NA:=match bh t q with
 | some (m,t0,D)=>zx ρ m t0 D
 | none=>ρ.ct t
noncomputable def Bind.cI (β:Bind) (q:hO) (ρ:aa):aa:=(β.ap ρ).tok (qk q ρ)
theorem Bind.uI {n:Nat} {β:Bind} {q:hO} (h:β.ge n=true) (hq:kJ n q=true) (ρ:aa):aA n ρ (β.cI q ρ):=by
 have a:=Bind.bC h ρ
 exact⟨a.i,a.b,a.s,a.len,a.ci,a.cb,a.cs,fun k u=>by
  show ρ.ct k=qk q ρ k
  unfold qk
  rw[ry hq u]⟩
theorem asA {ρ:aa} {β:Bind} {q:hO} {z t t0:Nat} {m m':U} {D:List (List X)} (hq:bh t q=some (m',t0,D)) (h0:0<=m'.I ρ) (hm:m.I (β.cI q ρ)=m'.I ρ+D.length) (ho:O3 z D=true):bN (β.cI q ρ) z m t=bN ρ z m' t0++X.a7 ρ D:=by
 have O:(bN ρ z m' t0).length=(m'.I ρ).toNat:=by unfold bN;rw[List.length_map,List.length_range]
 apply List.ext_getElem?
 intro j
 have ct:∀k,((β.cI q ρ).ct t k j).1=(zx ρ m' t0 D k j).1:=fun k=>by
  show(qk q ρ t k j).1=_
  unfold qk
  rw[hq]
 have hE:(X.a7 ρ D).length=D.length:=by simp[X.eH]
 by_cases c1:j<(m'.I ρ).toNat
 ·rw[List.getElem?_append_left (by omega)]
  unfold bN
  rw[List.getElem?_map,List.getElem?_map,List.getElem?_range (by omega),List.getElem?_range c1,Option.map_some,Option.map_some]
  congr 1
  exact List.map_congr_left fun k _=>by
   rw[ct]
   unfold zx
   rw[if_pos c1]
 ·rw[List.getElem?_append_right (by omega),O]
  by_cases c2:j<(m'.I ρ).toNat+D.length
  ·unfold bN
   rw[List.getElem?_map,List.getElem?_range (by omega),Option.map_some]
   obtain⟨e,F⟩:∃e,D[j-(m'.I ρ).toNat]? = some e:=⟨_,List.getElem?_eq_getElem (by omega)⟩
   have ho:=List.all_eq_true.1 ho e (List.mem_of_getElem? F)
   simp only[Bool.and_eq_true]at ho
   have hz:=Nat.eq_of_beq_eq_true ho.1
   rw[X.xx,F,Option.map_some]
   congr 1
   apply List.ext_getElem?
   intro k
   rw[List.getElem?_map]
   by_cases ad0:k<z
   ·rw[List.getElem?_range ad0,Option.map_some,ct]
    unfold zx
    rw[if_neg c1,X.xx,F,Option.map_some,Option.bind_some]
    obtain⟨x,hx⟩:∃x,e[k]? = some x:=⟨_,List.getElem?_eq_getElem (by omega)⟩
    have R:(X.af ρ e)[k]? = some (x.I ρ):=by rw[X.uX,hx];rfl
    rw[R,Option.getD_some,IS (pW (X.pY ρ e ho.2.1) R) (X.one_den ρ x (List.all_eq_true.1 ho.2.2 x (List.mem_of_getElem? hx)))]
   ·rw[List.getElem?_eq_none (by rw[List.length_range];omega),List.getElem?_eq_none (by rw[X.gg];omega)];rfl
  ·rw[List.getElem?_eq_none (by unfold bN;rw[List.length_map,List.length_range];omega),List.getElem?_eq_none (by rw[hE];omega)]
def Hv (n:Nat) (β:Bind) (q:hO) (z:Nat) (m:U) (t:Nat) (m':U) (t':Nat) (D:List (List X)):Bool :=
 m'.nn&&(O3 z D&&(gn n β m (mkAdd m' (.lit D.length))&&(if Nat.ble n t=true then(match bh t q with
  | some (m2,t2,TO)=>m2.beq m'&&(Nat.beq t2 t'&&X.qz TO D)
  | none=>false)else Nat.beq t t'&&Nat.beq D.length 0)))
def Hs (n:Nat) (β:Bind) (q:hO) (aF:Nm->Nm) (p e:List X):Bool :=
 match p with
 | [.tk z m t []]=>(match e with
  | [.tk z' m' t' D]=>Nat.beq z z'&&Hv n β q z m t m' t' D
  | e => !b0 e&&(Nat.blt 0 z&&(Nat.beq e.length (e.length / z*z)&&Hv n β q z m t (.lit 0) 0 (n3 z (e.length / z) e))))
 | p=>X.rK p&&CJ n β aF p e
theorem XC {n:Nat} {β:Bind} {q:hO} (Z:β.ge n=true) (hq:kJ n q=true) {ρ:aa} {z:Nat} {m:U} {t:Nat} {m':U} {t':Nat} {D:List (List X)} (h:Hv n β q z m t m' t' D=true):bN (β.cI q ρ) z m t=bN ρ z m' t'++X.a7 ρ D:=by
 unfold Hv at h
 simp only[Bool.and_eq_true]at h
 obtain⟨A,E,h3,h4⟩:=h
 have A:=U.kP ρ m' A
 have h3:m.I (β.cI q ρ)=m'.I ρ+D.length:=by
  have:=kS Z (ρ:=ρ) h3
  rw[fo]at this
  simp only[U.I]at this
  rw[<-this]
  exact U.bL _ _ m
 split at h4
 ·split at h4
  ·rename_i m2 t2 TO O
   simp only[Bool.and_eq_true]at h4
   have e1:=U.beq_eq _ _ h4.1
   have e2:=Nat.eq_of_beq_eq_true h4.2.1
   have e3:=X.Aj _ _ h4.2.2
   subst e1 e2 e3
   exact asA O A h3 E
  ·cases h4
 ·rename_i ht
  simp only[Bool.and_eq_true]at h4
  have e1:=Nat.eq_of_beq_eq_true h4.1
  subst e1
  obtain rfl:D=[]:=List.length_eq_zero_iff.1 (Nat.eq_of_beq_eq_true h4.2)
  have ct:(β.cI q ρ).ct t=ρ.ct t:=((Bind.uI Z hq ρ).ct t (by simpa using ht)).symm
  simp only[List.length_nil,Int.ofNat_zero,Int.add_zero]at h3
  unfold bN
  rw[h3,ct]
  simp[X.a7]
theorem ak9 {n:Nat} {β:Bind} {q:hO} (Z:β.ge n=true) (hq:kJ n q=true) {aF:Nm->Nm} {ρ:aa} {p e:List X} (h:Hs n β q aF p e=true):aB ρ e=Aw.bu aF (aB (β.cI q ρ) p):=by
 unfold Hs at h
 split at h
 ·rename_i z m t
  have e1:aB (β.cI q ρ) [.tk z m t []]=(bN (β.cI q ρ) z m t).flatten:=by simp[aB,X.a7]
  rw[e1,lN aF _ (rH rJ)]
  split at h
  ·simp only[Bool.and_eq_true]at h
   have e2:=Nat.eq_of_beq_eq_true h.1
   subst e2
   rw[XC Z hq h.2]
   rfl
  ·simp only[Bool.and_eq_true,Bool.not_eq_true']at h
   obtain⟨A,E,h3,h4⟩:=h
   rw[XC Z hq h4,cR A]
   have:bN ρ z (.lit 0) 0=[]:=rfl
   rw[this,List.nil_append,xu,Az _ _ _ (by rw[X.gg];exact Nat.eq_of_beq_eq_true h3)]
 ·simp only[Bool.and_eq_true]at h
  rw[XA Z h.2]
  have:aB (β.cI q ρ) p=aB (β.ap ρ) p:=by
   by_cases hr:b0 p=true
   ·unfold b0 at hr
    split at hr
    ·simp only[aB];unfold Bind.cI;rw[YB]
    ·have:=h.1
     simp[X.rK,X.yP]at this
    ·cases hr
   ·have hr:b0 p=false:=by simpa using hr
    rw[cR hr,cR hr]
    exact X.sE _ _ p h.1
  rw[this]
def rL (k0 n:Nat) (β:Bind) (q:hO) (nm:List (Nm×Nm)) (S V:XS):Bool :=
  kJ n q&&(β.ge n&&(Nat.ble k0 S.nx&&(Cj k0 nm&&(vL (e9 nm) (S.h.map (·.1)) &&
  (S.t.all (fun p=>X.yP (b3 S.t p.1)&&Hw n β (e9 nm) S.nx (b3 S.t p.1) (b3 V.t p.1)) &&
   S.h.all (fun p=>match bl S.h p.1 with
    | some cs=>X.a4 (fun m=>Nat.blt m.1 S.nx) cs&&(Nat.blt p.1.1 S.nx&&(match bl V.h (e9 nm p.1)with
      | some D=>Hs n β q (e9 nm) cs D
      | none=>false))
    | none=>true))))))
theorem CK {ac:Aw.Env} {k0 n:Nat} (hb:∀m,ac.c0.kn m->m.1<k0) {β:Bind} {q:hO} {nm:List (Nm×Nm)} {S V:XS} (h:rL k0 n β q nm S V=true) (ρ:aa):dL ac (V.I ρ) (S.I (β.cI q ρ)):=by
 simp only[rL,Bool.and_eq_true,Nat.ble_eq]at h
 obtain⟨hq,Z,u,Mx,qZ,ht,W⟩:=h
 have key:∀m cs,ae (aK (β.cI q ρ) S.h) m=some cs->∃ds D,bl S.h m=some ds/\cs=aB (β.cI q ρ) ds/\X.a4 (fun m=>Nat.blt m.1 S.nx) ds=true/\m.1<S.nx/\bl V.h (e9 nm m)=some D/\Hs n β q (e9 nm) ds D=true:=fun m cs aI=>by
  rw[cL]at aI
  obtain⟨ds,hd,rfl⟩:=Option.map_eq_some_iff.1 aI
  have:=List.all_eq_true.1 W _ (sU _ _ _ hd)
  simp only[hd,Bool.and_eq_true,Nat.blt_eq]at this
  obtain⟨A,E,h3⟩:=this
  split at h3
  ·rename_i D F
   exact⟨ds,D,hd,rfl,A,E,F,h3⟩
  ·cases h3
 refine JC (aM:=S.I (β.cI q ρ)) (e9 nm) hb (fun m hm=>OF Mx hm) u (fun i => ?_) (fun m cs aI => ?_) (fun m m' hm a1 F => ?_)
 ·simp only[XS.I,jm]
  rcases Dz S.t i with h | ⟨v,R⟩
  ·rw[h];exact .inl rfl
  ·have:=List.all_eq_true.1 ht _ R
   simp only[Bool.and_eq_true]at this
   obtain⟨hn,this⟩:=this
   simp only[Hw]at this
   split at this
   ·rename_i hp;rw[hp];exact .inl rfl
   ·simp only[Bool.and_eq_true]at this
    refine .inr ⟨X.wc _ _ this.1,?_⟩
    rw[Hy Z _ _ this.2]
    unfold Bind.cI
    rw[X.bL _ _ _ hn]
 ·obtain⟨ds,D,A,rfl,h3,h4,h5,h6⟩:=key m cs aI
  refine⟨X.wb _ _ h3,h4,?_⟩
  simp only[XS.I]
  rw[cL,h5,Option.map_some,ak9 Z hq h6]
 ·obtain⟨cs,aI⟩:=Option.isSome_iff_exists.1 hm
  obtain⟨bi,qW⟩:=Option.isSome_iff_exists.1 a1
  obtain⟨ds,_,A,_⟩:=key m cs aI
  obtain⟨sG,_,pi,_⟩:=key m' bi qW
  exact Gb qZ m (List.mem_map.2 ⟨_,sU _ _ _ A,rfl⟩) m' (List.mem_map.2 ⟨_,sU _ _ _ pi,rfl⟩) F
theorem arA {P:Program} {ρ:aa} {N:Nat} {body:Code} {ti:Nat->Option TI} {call:bI} {ms:List Nat} {bP:List bo} {fuel k0 n:Nat} {S S' nQ:XS} {s:XS} (hm:P.follows .mixedOrders=true) (bb:eO.ok P ti)
  (aO:dk P ρ call) (lw:a5 P ρ N bP body) (d8:dp N body=true) {aQ:J} (u:J.ok ρ aQ) (hd:S.I ρ=S'.I ρ) {ks:List Nat}
  (rf:((cz ti call ms k0 bP fuel body aQ S').map (eu ks)).aq ρ=some (.normal,s)) {β:Bind} {q:hO} {nm:List (Nm×Nm)} (a2:rL k0 n β q nm nQ s=true):ei P N body k0 S nQ ρ (β.cI q ρ):=by
 intro ac hE bM
 obtain⟨p,hq,F⟩:=T.jk _ rf
 rw[hd]
 have g:=kf (ac:=ac) hm bb aO bM body aQ _ p.1 p.2 u (by rw[hE];exact d8) (by rw[hE];exact lw) hq
 have q1:=congrArg Prod.fst F
 have q2:=congrArg Prod.snd F
 simp only at q1 q2
 refine dB (fun e' s' W=>⟨?_,?_⟩) g
 ·rw[W.1,show p.1=XE.normal from q1.symm]
 ·have i:=fx W.2 (zt ks ρ p)
  rw[<-q2]at i
  exact vH i (CK bM a2 ρ)
end Go.Proofs.Xw
namespace Go.Proofs.Xw
open Go Go.Proofs.Aw
inductive DT where
 | leaf
 | hole (k:Nat)
 | br (c:BE) (a b:DT)
 | ir (k:Nat) (a b:DT)
abbrev Hyp:=List (BE×J)
def sq (aR:Hyp):Prop:=∀(p:BE×J),p∈aR->∀ρ:aa,p.1.I ρ=true->J.ok ρ p.2
def DT.ok (aR:Hyp) (ke:J->Bool):DT->J->Bool
 | .leaf,B=>ke B
 | .hole _,_=>true
 | .br c a b,B=>match red B c with
  | .lit true=>a.ok aR ke B
  | .lit false=>b.ok aR ke B
  | c=>a.ok aR ke (assume c true B)&&b.ok aR ke (assume c false B)
 | .ir k a b,B=>match aR[k]? with
  | some (c,fs)=>(match red B c with
   | .lit true=>a.ok aR ke (fs++B)
   | .lit false=>b.ok aR ke B
   | d=>a.ok aR ke (fs++assume d true B)&&b.ok aR ke (assume d false B))
  | none=>false
def DT.lx (aR:Hyp):DT->J->List (Nat×J)
 | .leaf,_=>[]
 | .hole k,B=>[(k,B)]
 | .br c a b,B=>match red B c with
  | .lit true=>a.lx aR B
  | .lit false=>b.lx aR B
  | c=>a.lx aR (assume c true B)++b.lx aR (assume c false B)
 | .ir k a b,B=>match aR[k]? with
  | some (c,fs)=>(match red B c with
   | .lit true=>a.lx aR (fs++B)
   | .lit false=>b.lx aR B
   | d=>a.lx aR (fs++assume d true B)++b.lx aR (assume d false B))
  | none=>[]
theorem dZ {ρ:aa} {a b:J} (h:J.ok ρ a) (k:J.ok ρ b):J.ok ρ (a++b):=fun p hp=>by
 rcases List.mem_append.1 hp with hp | hp
 ·exact h p hp
 ·exact k p hp
theorem DT.rN {aR:Hyp} (hH:sq aR) {ke:J->Bool} {ρ:aa}:∀(d:DT) (B:J),d.ok aR ke B=true->J.ok ρ B->(∃aQ,J.ok ρ aQ/\ke aQ=true)\/∃p∈d.lx aR B,J.ok ρ p.2
 | .leaf,B,h,u => .inl ⟨B,u,h⟩
 | .hole k,B,_,u => .inr ⟨(k,B),List.mem_cons_self,u⟩
 | .br c a b,B,h,u=>by
  have hr:=dc u c
  simp only[DT.ok]at h
  simp only[DT.lx]
  split at h
  ·exact DT.rN hH a B h u
  ·exact DT.rN hH b B h u
  ·rw[Bool.and_eq_true]at h
   cases H:(red B c).I ρ with
   | true =>
    rcases DT.rN hH a _ h.1 (gu _ true B H u)with g | ⟨p,hp,g⟩
    ·exact .inl g
    ·exact .inr ⟨p,List.mem_append_left _ hp,g⟩
   | false =>
    rcases DT.rN hH b _ h.2 (gu _ false B H u)with g | ⟨p,hp,g⟩
    ·exact .inl g
    ·exact .inr ⟨p,List.mem_append_right _ hp,g⟩
 | .ir k a b,B,h,u=>by
  simp only[DT.ok]at h
  simp only[DT.lx]
  split at h
  ·rename_i c fs F
   have hr:=dc u c
   have hm:=hH _ (List.mem_of_getElem? F) ρ
   split at h
   ·rename_i e
    rw[e]at hr
    exact DT.rN hH a _ h (dZ (hm hr.symm) u)
   ·exact DT.rN hH b B h u
   ·rw[Bool.and_eq_true]at h
    cases H:(red B c).I ρ with
    | true =>
     rcases DT.rN hH a _ h.1 (dZ (hm (by rw[<-hr];exact H)) (gu _ true B H u))with g | ⟨p,hp,g⟩
     ·exact .inl g
     ·exact .inr ⟨p,List.mem_append_left _ hp,g⟩
    | false =>
     rcases DT.rN hH b _ h.2 (gu _ false B H u)with g | ⟨p,hp,g⟩
     ·exact .inl g
     ·exact .inr ⟨p,List.mem_append_right _ hp,g⟩
  ·cases h
def CB (B:J):X->X
 | .sc (.b e) => .sc (.b (fB B e))
 | .sc (.i k e) => .sc (.i k (nC B e))
 | x=>x
theorem OO {ρ:aa} {B:J} (u:J.ok ρ B) (x:X):(CB B x).I ρ=x.I ρ:=by
 unfold CB
 split
 ·simp only[X.I,Sc.I,oQ u]
 ·simp only[X.I,Sc.I,rS u]
 ·rfl
def CD (B:J):List X->List X
 | []=>[]
 | x::xs=>CB B x::CD B xs
theorem OQ {ρ:aa} {B:J} (u:J.ok ρ B):∀l:List X,X.af ρ (CD B l)=X.af ρ l
 | []=>rfl
 | x::xs=>by simp only[CD,X.af,OO u x,OQ u xs]
def Hb (B:J):List (List X)->List (List X)
 | []=>[]
 | x::xs=>CD B x::Hb B xs
theorem W_ {ρ:aa} {B:J} (u:J.ok ρ B):∀l:List (List X),X.a7 ρ (Hb B l)=X.a7 ρ l
 | []=>rfl
 | x::xs=>by simp only[Hb,X.a7,OQ u x,W_ u xs]
def lenOf:J->U->U
 | [],n=>n
 | (c,v)::r,n=>match c,v with
  | .eq a (.len L),true=>if a.beq n=true then .len L else lenOf r n
  | _,_=>lenOf r n
theorem Cd {ρ:aa}:∀{B:J} (_:J.ok ρ B) (n:U),(lenOf B n).I ρ=n.I ρ
 | [],_,n=>rfl
 | (c,v)::r,u,n=>by
  have hr:J.ok ρ r:=fun p hp=>u p (List.mem_cons_of_mem _ hp)
  simp only[lenOf]
  split
  ·split
   ·rename_i a L hb
    have A:=u _ List.mem_cons_self
    rw[<-U.beq_eq _ _ hb]
    simp only[BE.I,beq_iff_eq]at A
    exact A.symm
   ·exact Cd hr n
  ·exact Cd hr n
def Hg (B:J):X->X
 | .rl z n l f=>match red B (mkEq n (.lit 1))with
  | .lit true => .rl z (.lit 1) l f
  | _=>match red B (mkEq n (.lit 0))with
   | .lit true => .ro z [] f
   | _ => .rl z (lenOf B n) l f
 | .slv m z o n w => .slv m z o (lenOf B n) w
 | x=>CB B x
theorem Xc {ρ:aa} {B:J} (u:J.ok ρ B) (x:X):(Hg B x).I ρ=x.I ρ:=by
 unfold Hg
 split
 ·rename_i z n l f
  split
  ·rename_i e
   have hr:=dc u (mkEq n (.lit 1))
   rw[e,eX]at hr
   have hr:n.I ρ=1:=eq_of_beq (show(n.I ρ==1)=true from hr.symm)
   simp only[X.I,aX,hr,U.I]
  ·split
   ·rename_i e
    have hr:=dc u (mkEq n (.lit 0))
    rw[e,eX]at hr
    have hr:n.I ρ=0:=eq_of_beq (show(n.I ρ==0)=true from hr.symm)
    have e0:aX ρ n l=[]:=by unfold aX;rw[hr];rfl
    simp only[X.I,e0];rfl
   ·simp only[X.I,aX,Cd u]
 ·simp only[X.I,Cd u]
 ·exact OO u _
def CF (B:J):List X->List X
 | []=>[]
 | x::xs=>Hg B x::CF B xs
theorem Xd {ρ:aa} {B:J} (u:J.ok ρ B):∀l:List X,X.af ρ (CF B l)=X.af ρ l
 | []=>rfl
 | x::xs=>by simp only[CF,X.af,Xc u x,Xd u xs]
def OS (B:J) (z:Nat):X->X
 | .ro z' D _=>match D with
  | [] => .ro z [] false
  | D => .ro z' (Hb B D) false
 | .rl z' n l _=>Hg B (.rl z' n l false)
 | .k v=>if zE v (.slice none 0 0)=true then .ro z [] false else .k v
 | x=>CB B x
theorem ajo {ρ:aa} {B:J} (u:J.ok ρ B) (z:Nat) (x:X):b' ((OS B z x).I ρ) (x.I ρ):=by
 unfold OS
 split
 ·split
  ·intro C Y hu
   obtain⟨ab,cap,A,E,_,_⟩:=iU.1 hu
   exact iU.2 ⟨ab,cap,A,E,fun h=>(nomatch h),fun h=>absurd rfl h⟩
  ·intro C Y hu
   simp only[X.I]at hu ⊢
   rw[W_ u]
   exact H8 (f':=false) (fun h=>(nomatch h)) hu
 ·intro C Y hu
  rw[Xc u]
  simp only[X.I]at hu ⊢
  exact H8 (f':=false) (fun h=>(nomatch h)) hu
 ·split
  ·rename_i R
   rw[Q3 R]
   intro C Y hu
   have hu:Y = .slice none 0 0:=hu
   exact iU.2 ⟨none,0,hu,Nat.le_refl _,fun h=>(nomatch h),fun h=>absurd rfl h⟩
  ·exact b'.refl _
 ·exact b'.of_eq (OO u _)
def iG (B:J):List Nat->List X->List X
 | z::zs,x::xs=>OS B z x::iG B zs xs
 | _,xs=>xs
theorem bQ.cons {a b:AV} {x y:List AV} (h:b' a b) (k:bQ x y):bQ (a::x) (b::y):=by
 refine⟨by simp[k.1],fun j v M => ?_⟩
 cases j with
 | zero=>simp only[List.getElem?_cons_zero,Option.some.injEq]at M;subst M;exact⟨b,rfl,h⟩
 | succ j=>exact k.2 j v (by simpa using M)
theorem bQ.app {a b x y:List AV} (h:bQ a b) (k:bQ x y):bQ (a++x) (b++y):=by
 refine⟨by simp[h.1,k.1],fun j v M => ?_⟩
 rw[List.getElem?_append]at M ⊢
 rw[<-h.1]
 split at M
 ·rename_i H;rw[if_pos H];exact h.2 j v M
 ·rename_i H;rw[if_neg H];exact k.2 _ v M
theorem CE {ρ:aa} {B:J} (u:J.ok ρ B):∀(zs:List Nat) (l:List X),bQ (X.af ρ (iG B zs l)) (X.af ρ l)
 | [],_=>bQ.refl _
 | _::_,[]=>bQ.refl _
 | z::zs,x::xs=>bQ.cons (ajo u z x) (CE u zs xs)
def Hf (B:J) (nz:List Nat):List (List X)->List (List X)
 | []=>[]
 | e::D=>iG B nz e::Hf B nz D
theorem Xb {ρ:aa} {B:J} (u:J.ok ρ B) (nz:List Nat):∀(D:List (List X)),bQ (X.a7 ρ (Hf B nz D)).flatten (X.a7 ρ D).flatten
 | []=>bQ.refl _
 | e::D=>by
  simp only[Hf,X.a7,List.flatten_cons]
  exact bQ.app (CE u nz e) (Xb u nz D)
def He (B:J) (nz:List Nat) (cs:List X):List X:=match cs with
 | [.tk z m t D]=>[.tk z m t (Hf B nz D)]
 | [.rows z n l]=>[.rows z (lenOf B n) l]
 | cs=>if b0 (CF B cs)=true then cs else if(Nat.beq cs.length nz.length && !b0 (iG B nz cs))=true then iG B nz cs else CF B cs
theorem ajn {ρ:aa} {B:J} (u:J.ok ρ B) (nz:List Nat) (cs:List X):bQ (aB ρ (He B nz cs)) (aB ρ cs):=by
 unfold He
 split
 ·simp only[aB,List.flatten_append]
  exact bQ.app (bQ.refl _) (Xb u nz _)
 ·simp only[aB,aX,Cd u]
  exact bQ.refl _
 ·rename_i n1 n2
  have hr:b0 cs=false:=by
   cases hi:b0 cs with
   | false=>rfl
   | true =>
    unfold b0 at hi
    split at hi
    ·exact absurd rfl (n2 _ _ _)
    ·exact absurd rfl (n1 _ _ _ _)
    ·cases hi
  split
  ·exact bQ.refl _
  ·rename_i hz
   split
   ·rename_i H
    simp only[Bool.and_eq_true,Bool.not_eq_true']at H
    rw[cR H.2,cR hr]
    exact CE u nz cs
   ·rw[cR (by simpa using hz),cR hr,Xd u]
    exact bQ.refl _
def Hc (B:J) (nz:List Nat):av->av
 | []=>[]
 | (m,cs)::r=>(m,He B nz cs)::Hc B nz r
theorem Xa {B:J} {nz:List Nat} {m:Nm}:∀{h:av},bl (Hc B nz h) m=(bl h m).map (He B nz)
 | []=>rfl
 | (k,cs)::r=>by
  simp only[Hc,bl]
  split
  ·rfl
  ·exact Xa
def XS.gK (B:J) (nz:List Nat) (s:XS):XS:=⟨s.t,Hc B nz s.h,s.nx⟩
theorem XS.Xe {ρ:aa} {B:J} (u:J.ok ρ B) (nz:List Nat) (s:XS):ga ((s.gK B nz).I ρ) (s.I ρ):=by
 refine⟨fun i=>b'.refl _,fun m cs aI => ?_,Nat.le_refl _⟩
 simp only[XS.I,XS.gK,cL,Xa]at aI ⊢
 cases Z:bl s.h m with
 | none=>rw[Z]at aI;cases aI
 | some ds =>
  rw[Z]at aI
  simp only[Option.map_some,Option.some.injEq]at aI ⊢
  subst aI
  exact⟨_,rfl,ajn u nz ds⟩
def DO:List X->List X->List X
 | p::ps,x::xs=>(match p with | .top => .top | _=>x)::DO ps xs
 | _,xs=>xs
theorem aaM (ρ:aa):∀(ps l:List X),bQ (X.af ρ (DO ps l)) (X.af ρ l)
 | [],_=>bQ.refl _
 | _::_,[]=>bQ.refl _
 | p::ps,x::xs=>by
  simp only[DO,X.af]
  refine bQ.cons ?_ (aaM ρ ps xs)
  split
  ·exact b'.top _
  ·exact b'.refl _
def Pf (nm:List (Nm×Nm)) (m:Nm):av->List X
 | []=>[]
 | (k,cs)::r=>if cC (e9 nm k) m=true then cs else Pf nm m r
def I_ (ps cs:List X):List X:=if(b0 cs||b0 (DO ps cs))=true then cs else DO ps cs
theorem atW (ρ:aa) (ps cs:List X):bQ (aB ρ (I_ ps cs)) (aB ρ cs):=by
 unfold I_
 split
 ·exact bQ.refl _
 ·rename_i h
  simp only[Bool.or_eq_true,not_or,Bool.not_eq_true]at h
  rw[cR h.1,cR h.2]
  exact aaM ρ ps cs
def I9 (nm:List (Nm×Nm)) (S:av):av->av
 | []=>[]
 | (m,cs)::r=>(m,I_ (Pf nm m S) cs)::I9 nm S r
theorem aaL {nm:List (Nm×Nm)} {S:av} {m:Nm}:∀{h:av},bl (I9 nm S h) m=(bl h m).map (I_ (Pf nm m S))
 | []=>rfl
 | (k,cs)::r=>by
  simp only[I9,bl]
  split
  ·rename_i e;rw[eB e];rfl
  ·exact aaL
def XS.zK (nm:List (Nm×Nm)) (S:av) (s:XS):XS:=⟨s.t,I9 nm S s.h,s.nx⟩
theorem XS.Rc (ρ:aa) (nm:List (Nm×Nm)) (S:av) (s:XS):ga ((s.zK nm S).I ρ) (s.I ρ):=by
 refine⟨fun i=>b'.refl _,fun m cs aI => ?_,Nat.le_refl _⟩
 simp only[XS.I,XS.zK,cL,aaL]at aI ⊢
 cases Z:bl s.h m with
 | none=>rw[Z]at aI;cases aI
 | some ds =>
  rw[Z]at aI
  simp only[Option.map_some,Option.some.injEq]at aI ⊢
  subst aI
  exact⟨_,rfl,atW ρ _ ds⟩
def ql (nm:List (Nm×Nm)) (s:av):av->hO
 | []=>[]
 | (j,cs)::r=>match cs with
  | [.tk z _ t []]=>(match bl s (e9 nm j)with
   | some [.tk _ m' t' D]=>(t,m',t',D)::ql nm s r
   | some ds=>(t,.lit 0,0,n3 z (ds.length / z) ds)::ql nm s r
   | none=>ql nm s r)
  | _=>ql nm s r
def ug (q:hO):av->List (Nat×U×RL)
 | []=>[]
 | (_,cs)::r=>match cs with
  | [.tk _ (.len L) t []]=>(match bh t q with
   | some (m',_,D)=>(L,mkAdd m' (.lit D.length),.one [])::ug q r
   | none=>ug q r)
  | _=>ug q r
def aiD:X->X->List (Nat×U×RL)->List (Nat×U×RL)
 | .rl _ (.len _) (.var L _) _,.rl _ n l _,r=>(L,n,l)::r
 | .rl _ (.len _) (.var L _) _,.ro _ D _,r=>(match o4 D with
  | some l=>(L,.lit D.length,l)::r
  | none=>r)
 | _,_,r=>r
def WH:List X->List X->List (Nat×U×RL)->List (Nat×U×RL)
 | x::xs,y::ys,r=>aiD x y (WH xs ys r)
 | _,_,r=>r
def Og (nm:List (Nm×Nm)) (s:av):av->List (Nat×U×RL)
 | []=>[]
 | (j,cs)::r=>match bl s (e9 nm j)with
  | some ds=>WH cs ds (Og nm s r)
  | none=>Og nm s r
def Bind.trim (n:Nat) (β:Bind):Bind :=
  ⟨β.i.filter fun p=>Nat.ble n p.1 && !p.2.beq (.var p.1),β.b.filter fun p=>Nat.ble n p.1 && !p.2.beq (.var p.1),β.s.filter fun p=>Nat.ble n p.1 && !p.2.beq (.var p.1),
   β.r.filter fun p=>Nat.ble n p.1 && !(p.2.1.beq (.len p.1)&&(match p.2.2 with | .var l _=>Nat.beq l p.1 | .one []=>true | _=>false))⟩
def J9 (n:Nat) (nm:List (Nm×Nm)) (q:hO) (S s:XS):Bind :=
 let β:=adE nm S s
 (⟨β.i,β.b,β.s,ug q S.h++(Og nm s.h S.h++β.r)⟩:Bind).trim n
inductive Tk where
 | f (k:Kd)
 | r (z:Nat) (ks:List Kd)
def Tk.Ae:Tk->AV->Prop
 | .f k,v=>k5 [k] [v]
 | .r z ks,v=>∃D,v = .ro z D false/\D.length<=1000/\∀e∈D,k5 ks e
def tyE (ks:List Kd) (D:List (List X)):Bool:=D.all fun e=>match o5 e with
 | some s=>rX ks s
 | none=>false
def IY (B:J):Tk->X->Bool
 | .f k,.sc s=>P9 k s
 | .r z ks,.ro z' D full => !full&&(Nat.beq z z'&&(Nat.ble D.length 1000&&tyE ks D))
 | .r z ks,.rl z' n l full => !full&&(Nat.beq z z'&&(nD B (.lt (.lit 1000) n,false)&&l.kd ks))
 | _,_=>false
theorem aac {ρ:aa} {B:J} (u:J.ok ρ B) {t:Tk} {x:X} (h:IY B t x=true):t.Ae (x.I ρ):=by
 unfold IY at h
 split at h
 ·exact Dg (ρ:=ρ) (show rX [_] [_]=true by simp only[rX,h,Bool.and_self])
 ·rename_i z ks z' D full
  simp only[Bool.and_eq_true,Bool.not_eq_true']at h
  obtain⟨h0,h⟩:=h
  have A:=Nat.eq_of_beq_eq_true h.1
  subst h0 A
  obtain⟨_,E,h⟩:=h
  refine⟨_,rfl,by rw[X.eH,List.length_map];exact Nat.le_of_ble_eq_true E,fun e F => ?_⟩
  rw[X.eH]at F
  obtain⟨d,hd,rfl⟩:=List.mem_map.1 F
  have:=List.all_eq_true.1 h d hd
  split at this
  ·rename_i sc hs
   rw[<-zA (ρ:=ρ) hs]
   exact Dg this
  ·cases this
 ·rename_i z ks z' n l full
  simp only[Bool.and_eq_true,Bool.not_eq_true']at h
  obtain⟨h0,h⟩:=h
  have A:=Nat.eq_of_beq_eq_true h.1
  subst h0 A
  obtain⟨_,E,h⟩:=h
  have E:¬(1000:Int)<n.I ρ:=of_decide_eq_false (rZ u E)
  refine⟨_,rfl,by rw[qa];omega,fun e F => ?_⟩
  obtain⟨j,_,rfl⟩:=List.mem_map.1 F
  exact RL.rr h
 ·cases h
def sg (B:J):List Tk->List X->Bool
 | [],_=>true
 | t::ts,x::xs=>IY B t x&&sg B ts xs
 | _,_=>false
theorem QT {B:J}:∀{kt:List Tk} {e:List X} {k:Nat} {t:Tk},sg B kt e=true->kt[k]? = some t->∃x,e[k]? = some x/\IY B t x=true
 | [],_,_,_,_,h=>by simp at h
 | _::_,[],_,_,h,_=>by cases h
 | t::ts,x::xs,0,t',h,u=>by
  simp only[sg,Bool.and_eq_true]at h
  simp only[List.getElem?_cons_zero,Option.some.injEq]at u
  subst u
  exact⟨x,rfl,h.1⟩
 | t::ts,x::xs,k+1,t',h,u=>by
  simp only[sg,Bool.and_eq_true]at h
  rw[List.getElem?_cons_succ]at u ⊢
  exact QT h.2 u
def eP (l:Nat) (kt:List Tk) (ρ:aa):Prop:=∀(j k:Nat) (t:Tk),j<ρ.len l->kt[k]? = some t->t.Ae (ρ.ct l k j).1
def QS (B:J) (l z:Nat) (kt:List Tk) (β:Bind) (q:hO):Bool:=match bh l q with
 | some (m,t0,D)=>m.nn&&((m.beq (.lit 0)||(Nat.beq t0 l&&m.beq (.len l)))&&(((match bh l β.r with
  | some (n,_)=>n
  | none => .len l).beq (mkAdd m (.lit D.length)))&&(O3 z D&&D.all (sg B kt))))
 | none=>(bh l β.r).isNone
theorem aab {B:J} {l z:Nat} {kt:List Tk} {β:Bind} {q:hO} {ρ:aa} (u:J.ok ρ B) (h:QS B l z kt β q=true) (ht:eP l kt ρ):eP l kt (β.cI q ρ):=by
 unfold QS at h
 intro j k t M sV
 have hlen:(β.cI q ρ).len l=match bh l β.r with | some (n,_)=>(n.I ρ).toNat | none=>ρ.len l:=rfl
 have hct:(β.cI q ρ).ct l k j=qk q ρ l k j:=rfl
 rw[hct]
 split at h
 ·rename_i m t0 D hq
  simp only[Bool.and_eq_true,Bool.or_eq_true]at h
  obtain⟨A,E,h3,h4,h5⟩:=h
  have m0:=U.kP ρ m A
  have h3:=U.beq_eq _ _ h3
  have hL:(β.cI q ρ).len l=(m.I ρ).toNat+D.length:=by
   rw[hlen]
   cases hr:bh l β.r with
   | some v =>
    rw[hr]at h3
    have:=congrArg (U.I ρ) h3
    simp only[fo,U.I]at this
    simp only
    omega
   | none =>
    rw[hr]at h3
    have:=congrArg (U.I ρ) h3
    simp only[fo,U.I]at this
    simp only
    omega
  unfold qk
  rw[hq]
  show t.Ae (zx ρ m t0 D k j).1
  unfold zx
  split
  ·rename_i H
   rcases E with E | E
   ·have:=U.beq_eq _ _ E
    subst this
    simp[U.I]at H
   ·have e1:=Nat.eq_of_beq_eq_true E.1
    have e2:=U.beq_eq _ _ E.2
    subst e1 e2
    exact ht j k t (by simpa [U.I]using H) sV
  ·rename_i H
   obtain⟨e,F⟩:∃e,D[j-(m.I ρ).toNat]? = some e:=⟨_,List.getElem?_eq_getElem (by omega)⟩
   have ho:=List.all_eq_true.1 h4 e (List.mem_of_getElem? F)
   simp only[Bool.and_eq_true]at ho
   obtain⟨x,hx,BV⟩:=QT (List.all_eq_true.1 h5 e (List.mem_of_getElem? F)) sV
   have R:(X.af ρ e)[k]? = some (x.I ρ):=by rw[X.uX,hx];rfl
   rw[X.xx,F,Option.map_some,Option.bind_some,R,Option.getD_some,IS (pW (X.pY ρ e ho.2.1) R) (X.one_den ρ x (List.all_eq_true.1 ho.2.2 x (List.mem_of_getElem? hx)))]
   exact aac u BV
 ·rename_i hq
  unfold qk
  rw[hq]
  refine ht j k t ?_ sV
  rw[hlen,Option.isNone_iff_eq_none.1 h]at M
  exact M
def OG (S s:XS):List (Nm×Nm):=let a:=W2 s.t S.t;let b:=OE S.h s.h a [];a++(b++OE S.h s.h b [])
structure Alt where
 fr:Nat
 ki:List Nat
 rv:List Nat
 i:List (Nat×U)
 r:List (Nat×U×RL)
 fs:J:=[]
structure dq where
 S:XS
 b6:J
 dm:List Alt
def Bind.keeps (β:Bind) (ki rv:List Nat):Bool:=ki.all (fun k=>(bh k β.i).isNone)&&rv.all (fun k=>(bh k β.r).isNone)
def Alt.fits (β:Bind) (a:Alt):Bool:=β.keeps a.ki a.rv&&(a.i.all (fun p=>match bh p.1 β.i with | some e=>e.beq p.2 | none=>false)&&a.r.all (fun p=>match bh p.1 β.r with | some (n,l)=>n.beq p.2.1&&l.beq p.2.2 | none=>false))
def Fm (k0 n aC:Nat) (nz:List Nat) (kt:Nat×List Tk) (i:Nat) (C:dq) (B:J) (s0:XS):Bool :=
 let s1:=s0.gK B nz
 let nm:=OG C.S s1
 let s:=s1.zK nm C.S.h
 let q:=ql nm s.h C.S.h
 let β:=J9 n nm q C.S s
 rL k0 n β q nm C.S s&&((kt.2.isEmpty||QS B kt.1 kt.2.length kt.2 β q)&&(C.b6.all (Ix β B)&&(Ng aC β&&(C.dm.isEmpty||C.dm.any fun a=>Nat.beq a.fr i&&(a.fs.all (nD B)&&a.fits β)))))
def A6 (k0 n aC:Nat) (nz:List Nat) (kt:Nat×List Tk) (i:Nat) (B:J) (s:XS):List dq->Nat->Bool
 | [],_=>false
 | C::cs,j=>Fm k0 n aC nz kt i C B s||A6 k0 n aC nz kt i B s cs (j+1)
theorem LJ {k0 n aC:Nat} {nz:List Nat} {kt:Nat×List Tk} {i:Nat} {B:J} {s:XS}:∀{cs:List dq} {a:Nat},A6 k0 n aC nz kt i B s cs a=true->∃(j:Nat) (C:dq),cs[j]? = some C/\Fm k0 n aC nz kt i C B s=true
 | [],_,h=>by cases h
 | C::cs,a,h=>by
  simp only[A6,Bool.or_eq_true]at h
  rcases h with h | h
  ·exact⟨0,C,rfl,h⟩
  ·obtain⟨j,bO,A,E⟩:=LJ h
   exact⟨j+1,bO,A,E⟩
def J6:XE->XE->Bool
 | .normal,.normal=>true
 | .exit a,.exit b=>Nat.beq a b
 | .ret,.ret=>true
 | _,_=>false
theorem Su {a b:XE} (h:J6 a b=true):a=b:=by
 cases a<;>cases b<;>first | rfl | (cases h;done) | skip
 rw[Nat.eq_of_beq_eq_true h]
def E_ (S s:XS):Bool:=S.t.all (fun p=>(match p.2 with | .top=>true | _=>(b3 S.t p.1).beq (b3 s.t p.1)))&&(S.h.all (fun q=>match bl S.h q.1,bl s.h q.1 with | some a,some b=>X.fc a b | _,_=>false)&&Nat.ble s.nx S.nx)
theorem aeJ {S s:XS} (h:E_ S s=true) (hu:∀i,b3 S.t i = .top\/∃v,(i,v)∈S.t/\b3 S.t i=v) (ρ:aa):ga (S.I ρ) (s.I ρ):=by
 simp only[E_,Bool.and_eq_true,List.all_eq_true]at h
 obtain⟨A,E,h3⟩:=h
 refine⟨fun i => ?_,fun m cs aI => ?_,Nat.le_of_ble_eq_true h3⟩
 ·simp only[XS.I,jm]
  rcases hu i with e | ⟨v,R,e⟩
  ·rw[e];exact b'.top _
  ·have:=A _ R
   simp only at this
   split at this
   ·rw[e];exact b'.top _
   ·rw[X.beq_eq _ _ this];exact b'.refl _
 ·simp only[XS.I,cL]at aI ⊢
  cases Z:bl S.h m with
  | none=>rw[Z]at aI;cases aI
  | some ds =>
   rw[Z]at aI
   simp only[Option.map_some,Option.some.injEq]at aI
   subst aI
   have:=E _ (ml _ _ _ Z)
   simp only[Z]at this
   split at this
   ·rename_i a b e1 e2
    cases e1
    rw[e2,X.gv _ _ this]
    exact⟨_,rfl,bQ.refl _⟩
   ·cases this
theorem ZU:∀(t:bf) (i:Nat),b3 t i = .top\/∃v,(i,v)∈t/\b3 t i=v
 | [],i => .inl rfl
 | (j,v)::l,i=>by
  simp only[b3]
  split
  ·rename_i h;rw[Nat.eq_of_beq_eq_true h];exact .inr ⟨v,List.mem_cons_self,rfl⟩
  ·rcases ZU l i with h | ⟨w,hw,h⟩
   ·exact .inl h
   ·exact .inr ⟨w,List.mem_cons_of_mem _ hw,h⟩
def dX (k0 n aC:Nat) (nz:List Nat) (kt:Nat×List Tk) (i:Nat) (cs:List dq) (S:XS) (xe:XE):J->T (XE×XS)->Bool
 | B,.ret (.normal,s)=>A6 k0 n aC nz kt i B s cs 0
 | _,.ret (e,s)=>J6 e xe&&(!J6 e .normal&&E_ S s)
 | B,.br c x y=>match red B c with
  | .lit true=>dX k0 n aC nz kt i cs S xe B x
  | .lit false=>dX k0 n aC nz kt i cs S xe B y
  | _=>dX k0 n aC nz kt i cs S xe (assume c true B) x&&dX k0 n aC nz kt i cs S xe (assume c false B) y
 | B,.cT c x=>match red B c with
  | .lit true=>dX k0 n aC nz kt i cs S xe B x
  | _=>false
 | _,.fail _=>false
theorem wo {ρ:aa} {k0 n aC:Nat} {nz:List Nat} {kt:Nat×List Tk} {i:Nat} {cs:List dq} {S:XS} {xe:XE}:∀(t:T (XE×XS)) (B:J),dX k0 n aC nz kt i cs S xe B t=true->J.ok ρ B->∃e s aQ,t.aq ρ=some (e,s)/\J.ok ρ aQ /\
  ((e = .normal/\A6 k0 n aC nz kt i aQ s cs 0=true)\/(e=xe/\e ≠ .normal/\E_ S s=true))
 | .ret (.normal,s),B,h,u=>⟨_,s,B,rfl,u,.inl ⟨rfl,h⟩⟩
 | .ret (.exit j,s),B,h,u=>by
  simp only[dX,Bool.and_eq_true]at h
  exact⟨_,s,B,rfl,u,.inr ⟨Su h.1,(fun h=>by cases h),h.2.2⟩⟩
 | .ret (.ret,s),B,h,u=>by
  simp only[dX,Bool.and_eq_true]at h
  exact⟨_,s,B,rfl,u,.inr ⟨Su h.1,(fun h=>by cases h),h.2.2⟩⟩
 | .br c x y,B,h,u=>by
  have hr:=dc u c
  simp only[dX]at h
  split at h
  ·rename_i e
   rw[e]at hr
   have hr:c.I ρ=true:=hr.symm
   obtain⟨e',s,aQ,A,E⟩:=wo x B h u
   exact⟨e',s,aQ,by simp only[T.aq,hr,if_true];exact A,E⟩
  ·rename_i e
   rw[e]at hr
   have hr:c.I ρ=false:=hr.symm
   obtain⟨e',s,aQ,A,E⟩:=wo y B h u
   exact⟨e',s,aQ,by simp only[T.aq,hr,Bool.false_eq_true,if_false];exact A,E⟩
  ·rw[Bool.and_eq_true]at h
   cases H:c.I ρ with
   | true =>
    obtain⟨e',s,aQ,A,E⟩:=wo x _ h.1 (gu c true B H u)
    exact⟨e',s,aQ,by simp only[T.aq,H,if_true];exact A,E⟩
   | false =>
    obtain⟨e',s,aQ,A,E⟩:=wo y _ h.2 (gu c false B H u)
    exact⟨e',s,aQ,by simp only[T.aq,H,Bool.false_eq_true,if_false];exact A,E⟩
 | .cT c x,B,h,u=>by
  have hr:=dc u c
  simp only[dX]at h
  split at h
  ·rename_i e
   rw[e]at hr
   have hr:c.I ρ=true:=hr.symm
   obtain⟨e',s,aQ,A,E⟩:=wo x B h u
   exact⟨e',s,aQ,by simp only[T.aq,hr,if_true];exact A,E⟩
  ·cases h
 | .fail _,_,h,_=>by cases h
def RS (ki rv:List Nat) (ρ G:aa):Prop:=(∀k∈ki,G.i k=ρ.i k)/\∀k∈rv,G.len k=ρ.len k/\G.ci k=ρ.ci k/\G.cb k=ρ.cb k/\G.cs k=ρ.cs k
theorem ahs {β:Bind} {q:hO} {ki rv:List Nat} (h:β.keeps ki rv=true) (ρ:aa):RS ki rv ρ (β.cI q ρ):=by
 simp only[Bind.keeps,Bool.and_eq_true,List.all_eq_true,Option.isNone_iff_eq_none]at h
 refine⟨fun k u => ?_,fun k u=>⟨?_,?_,?_,?_⟩⟩
 ·show(match bh k β.i with | some e=>e.I ρ | none=>ρ.i k)=_
  rw[h.1 k u]
 ·show(match bh k β.r with | some (n,_)=>(n.I ρ).toNat | none=>ρ.len k)=_
  rw[h.2 k u]
 ·funext a b
  show(match bh k β.r with | some (_,r)=>aH (r.row ρ b)[a]? | none=>ρ.ci k a b)=_
  rw[h.2 k u]
 ·funext a b
  show(match bh k β.r with | some (_,r)=>dS (r.row ρ b)[a]? | none=>ρ.cb k a b)=_
  rw[h.2 k u]
 ·funext a b
  show(match bh k β.r with | some (_,r)=>cellS (r.row ρ b)[a]? | none=>ρ.cs k a b)=_
  rw[h.2 k u]
def gR (a:Alt) (ρ G:aa):Prop:=J.ok ρ a.fs/\RS a.ki a.rv ρ G/\(∀p∈a.i,G.i p.1=p.2.I ρ) /\
 ∀p∈a.r,G.len p.1=(p.2.1.I ρ).toNat/\(∀(k j:Nat),G.ci p.1 k j=aH (p.2.2.row ρ j)[k]?)/\(∀(k j:Nat),G.cb p.1 k j=dS (p.2.2.row ρ j)[k]?)/\∀(k j:Nat),G.cs p.1 k j=cellS (p.2.2.row ρ j)[k]?
theorem Alt.Ua {β:Bind} {q:hO} {a:Alt} {B:J} {ρ:aa} (u:J.ok ρ B) (hf:(a.fs.all (nD B))=true) (h:a.fits β=true):gR a ρ (β.cI q ρ):=by
 simp only[Alt.fits,Bool.and_eq_true,List.all_eq_true]at h
 obtain⟨A,E,h3⟩:=h
 refine⟨fun p hp=>rZ u (List.all_eq_true.1 hf p hp),ahs A ρ,fun p hp => ?_,fun p hp => ?_⟩
 ·have:=E p hp
  split at this
  ·rename_i e F
   have:=U.beq_eq _ _ this
   subst this
   show(match bh p.1 β.i with | some e=>e.I ρ | none=>ρ.i p.1)=_
   rw[F]
  ·cases this
 ·have:=h3 p hp
  split at this
  ·rename_i n l F
   rw[Bool.and_eq_true]at this
   have e1:=U.beq_eq _ _ this.1
   have e2:=RL.beq_eq this.2
   subst e1 e2
   refine⟨?_,fun k j => ?_,fun k j => ?_,fun k j => ?_⟩
   ·show(match bh p.1 β.r with | some (n,_)=>(n.I ρ).toNat | none=>ρ.len p.1)=_
    rw[F]
   ·show(match bh p.1 β.r with | some (_,r)=>aH (r.row ρ j)[k]? | none=>ρ.ci p.1 k j)=_
    rw[F]
   ·show(match bh p.1 β.r with | some (_,r)=>dS (r.row ρ j)[k]? | none=>ρ.cb p.1 k j)=_
    rw[F]
   ·show(match bh p.1 β.r with | some (_,r)=>cellS (r.row ρ j)[k]? | none=>ρ.cs p.1 k j)=_
    rw[F]
  ·cases this
theorem Zp {β:Bind} {q:hO} {ρ:aa} {B b6:J} (u:J.ok ρ B) (h:b6.all (Ix β B)=true):J.ok (β.cI q ρ) b6:=fun p hp=>by
 have:=arh u h p hp
 unfold Bind.cI
 rw[BE.bL]
 exact this
theorem ij {P:Program} {ρ:aa} {N:Nat} {body:Code} {ti:Nat->Option TI} {call:bI} {ms:List Nat} {bP:List bo} {fuel k0 n aC:Nat} {nz:List Nat} {kt:Nat×List Tk} {i:Nat} {cs:List dq} {S:XS} {xe:XE} {B:J} (hm:P.follows .mixedOrders=true) (bb:eO.ok P ti)
  (aO:dk P ρ call) (lw:a5 P ρ N bP body) (d8:dp N body=true) (u:J.ok ρ B) {ks:List Nat}
  {So:XS} (bJ:dX k0 n aC nz kt i cs So xe B ((cz ti call ms k0 bP fuel body B S).map (eu ks))=true) :
  js P N body k0 S (.ret (xe,So)) ρ\/∃(j:Nat) (C:dq) (G:aa),cs[j]? = some C/\ei P N body k0 S C.S ρ G/\J.ok G C.b6/\G.i aC=IntKind.i64.wrap (ρ.i aC+1)/\aA n ρ G/\(eP kt.1 kt.2 ρ->eP kt.1 kt.2 G)/\(C.dm=[]\/∃a∈C.dm,a.fr=i/\gR a ρ G):=by
 obtain⟨e,s,aQ,A,E,h3⟩:=wo _ _ bJ u
 obtain⟨p,hq,F⟩:=T.jk _ A
 have q1:e=p.1:=congrArg Prod.fst F
 have q2:s=(eu ks p).2:=congrArg Prod.snd F
 rcases h3 with⟨hn,hf⟩ | ⟨hx,hn,hf⟩
 ·right
  obtain⟨j,C,g1,g2⟩:=LJ hf
  simp only[Fm,Bool.and_eq_true]at g2
  obtain⟨g2,gt,g3,g4,g5⟩:=g2
  generalize F0:OG C.S (s.gK aQ nz)=nm at g2 gt g3 g4 g5
  generalize kD:(s.gK aQ nz).zK nm C.S.h=s1 at g2 gt g3 g4 g5
  generalize agP:ql nm s1.h C.S.h=D7 at g2 gt g3 g4 g5
  generalize agM:J9 n nm D7 C.S s1=β at g2 gt g3 g4 g5
  have Z:=g2
  simp only[rL,Bool.and_eq_true]at Z
  refine⟨j,C,β.cI D7 ρ,g1,fun ac hE bM => ?_,Zp E g3,?_,Bind.uI Z.2.1 Z.1 ρ,fun ht => ?_,?_⟩
  ·have g:=kf (ac:=ac) hm bb aO bM body B _ p.1 p.2 u (by rw[hE];exact d8) (by rw[hE];exact lw) hq
   refine dB (fun e' s' W=>⟨?_,?_⟩) g
   ·rw[W.1,<-q1,hn]
   ·have i:=fx W.2 (zt ks ρ p)
    rw[<-q2]at i
    have l:=(XS.Rc ρ nm C.S.h (s.gK aQ nz)).trans (XS.Xe E nz s)
    rw[kD]at l
    exact vH (fx i l) (CK bM g2 ρ)
  ·unfold Ng at g4
   split at g4
   ·rename_i e' hI
    have:=U.beq_eq _ _ g4
    subst this
    show(match bh aC β.i with | some e=>e.I ρ | none=>ρ.i aC)=_
    rw[hI]
    simp only[U.I,a_.I]
   ·cases g4
  ·rw[Bool.or_eq_true]at gt
   rcases gt with gt | gt
   ·have:=List.isEmpty_iff.1 gt
    intro j k t _ aJ
    rw[this]at aJ
    simp at aJ
   ·exact aab E gt ht
  ·rw[Bool.or_eq_true]at g5
   rcases g5 with g5 | g5
   ·left;exact List.isEmpty_iff.1 g5
   ·right
    obtain⟨a,ha,g6⟩:=List.any_eq_true.1 g5
    simp only[Bool.and_eq_true]at g6
    exact⟨a,ha,Nat.eq_of_beq_eq_true g6.1,Alt.Ua E g6.2.1 g6.2.2⟩
 ·left
  intro ac hE bM
  have g:=kf (ac:=ac) hm bb aO bM body B _ p.1 p.2 u (by rw[hE];exact d8) (by rw[hE];exact lw) hq
  refine dB (fun e' s' W=>⟨e,So,hn,by rw[hx];rfl,?_,?_⟩) g
  ·rw[W.1,<-q1]
  ·have i:=fx W.2 (zt ks ρ p)
   rw[<-q2]at i
   exact fx i (aeJ hf (ZU _) ρ)
theorem Wh {P:Program} {N:Nat} {body:Code} {k0 n:Nat} {S0:XS} (hS:S0.au n=true) (Ss:Nat->XS) (L:Nat->bo) (hL:∀i,(L i).k0=k0/\(L i).S=S0/\(L i).init=gJ) (ao:Nat->aa->Prop) (dr:aa->Nat)
  (hR:∀i ρ,ao i ρ->js P N body k0 (Ss i) (L i).out ρ\/∃i' G,ei P N body k0 (Ss i) (Ss i') ρ G/\ao i' G/\dr G<dr ρ/\aA n ρ G)
  {ρ:aa} (h0:∃i al,aA n ρ al/\ao i al/\∀ac:Aw.Env,ac.N=N->(∀m,ac.c0.kn m->m.1<k0)->dL ac (S0.I ρ) ((Ss i).I al)):∃i ar,aA n ρ ar/\ao i ar/\b8 P ar N body (L i):=by
 have key:∀(k:Nat) (i:Nat) (ρ:aa),dr ρ<=k->ao i ρ->∃i' ar,aA n ρ ar/\ao i' ar/\∀ac:Aw.Env,ac.N=N->(∀m,ac.c0.kn m->m.1<k0)->∃m,j3 P ac body (fun e V=>∃e' s,(L i').out.aq ar=some (e',s)/\e=e'.to/\dL ac V (s.I ar)) m ((Ss i).I ρ):=by
  have fin:∀i ρ,js P N body k0 (Ss i) (L i).out ρ->∀ac:Aw.Env,ac.N=N->(∀m,ac.c0.kn m->m.1<k0)->∃m,j3 P ac body (fun e V=>∃e' s,(L i).out.aq ρ=some (e',s)/\e=e'.to/\dL ac V (s.I ρ)) m ((Ss i).I ρ):=fun i ρ h ac hE hb=>by
   refine⟨1,dB (fun e V hq => ?_) (h ac hE hb)⟩
   obtain⟨e',s,A,E,rfl,h4⟩:=hq
   cases e' with
   | normal=>exact absurd rfl A
   | exit j=>exact⟨_,s,E,rfl,h4⟩
   | ret=>exact⟨_,s,E,rfl,h4⟩
  intro k
  induction k with
  | zero =>
   intro i ρ u hr
   rcases hR i ρ hr with h | ⟨i',G,_,_,h,_⟩
   ·exact⟨i,ρ,aA.refl _ _,hr,fin i ρ h⟩
   ·omega
  | succ k ih =>
   intro i ρ u hr
   rcases hR i ρ hr with h | ⟨i',G,A,E,h3,h5⟩
   ·exact⟨i,ρ,aA.refl _ _,hr,fin i ρ h⟩
   ·obtain⟨ot,ar,g2,g3,g4⟩:=ih i' G (by omega) E
    refine⟨ot,ar,h5.trans g2,g3,fun ac hE hb => ?_⟩
    obtain⟨m,g5⟩:=g4 ac hE hb
    refine⟨m+1,dB (fun e V hq => ?_) (A ac hE hb)⟩
    obtain⟨rfl,hi⟩:=hq
    cases m with
    | zero=>exact g5.elim
    | succ m=>exact qs hi g5
 obtain⟨i,al,mQ,hr,himp⟩:=h0
 obtain⟨i',ar,g2,g3,g4⟩:=key (dr al) i al (Nat.le_refl _) hr
 refine⟨i',ar,mQ.trans g2,g3,fun ac hE hb => ?_⟩
 obtain⟨e1,e2,e3⟩:=hL i'
 rw[e2,e3,W8,<-XS.aP (mQ.trans g2) S0 hS]
 rw[e1]at hb
 obtain⟨m,g5⟩:=g4 ac hE hb
 exact qs (himp ac hE hb) (D_ m g5)
end Go.Proofs.Xw
namespace Go.Proofs.Xw
open Go Go.Proofs.Aw Go.ChangeShapes Go.WideShapes
section
variable {aR:Type} {enc:TypeId×Value->aR} {P:Program}
theorem GO {am β:Type} {f:am->Option β}:∀{l:List am} {r:List β},l.mapM f=some r->r.length=l.length
 | [],r,h=>by simp only[List.mapM_nil,pure,Option.some.injEq]at h;subst h;rfl
 | a::l,r,h=>by
  simp only[List.mapM_cons,bind,Option.bind_eq_some_iff,pure,Option.some.injEq]at h
  obtain⟨y,_,ys,jH,rfl⟩:=h
  simp[GO jH]
theorem ah3 {t e:TypeId} (hu:P.underlying t=some (.slice e)) {aj:World} {ab:Option Addr} {len cap:Nat} {d:DataW aR} {p:List MemPlace} (h:DataW.Trod enc P aj 0 (fun _=>true) true t (.slice ab len cap) d p):len=0\/∃elems spare,d = .slice elems spare/\elems.length=len:=by
 obtain⟨n,h⟩:=h
 cases n with
 | zero=>simp[DataW.trod]at h
 | succ n =>
  have R:(Value.slice ab len cap).cells.toList=[.slice ab len cap]:=rfl
  rw[R,DataW.trod_step]at h
  unfold DataW.trodStep at h
  rw[hu]at h
  cases ab with
  | none =>
   left
   cases len<;>cases cap<;>simp_all
  | some a =>
   simp only at h
   split at h
   ·obtain⟨elems,F,h⟩:=Option.bind_eq_some_iff.1 h
    obtain⟨rest,_,h⟩:=Option.map_eq_some_iff.1 h
    right
    have A:=congrArg Prod.fst h
    simp only at A
    exact⟨_,_,A.symm,by rw[List.length_map,GO F,List.length_range]⟩
   ·cases h
theorem V' {aj:World} {gs:List (DataW aR)} {us:List TypeId}:∀{ts:List TypeId} {vs:List Value} {ds:List (DataW aR)} {p:List MemPlace},DataW.TrodAll enc P aj 0 (fun _=>true) true ts vs ds p->(DataW.weightsEach P (ts++us) (ds++gs)).all (· <= reachBytes)=true ->
  ∀(j:Nat) (t e:TypeId) (ab:Option Addr) (len cap:Nat),ts[j]? = some t->vs[j]? = some (.slice ab len cap)->P.underlying t=some (.slice e)->len*P.bytesOf e<=reachBytes
 | [],_,_,_,_,_,j,t,e,ab,len,cap,A,_,_=>by simp at A
 | t0::ts,vs,ds,p,h,hw,j,t,e,ab,len,cap,A,E,hu=>by
  obtain⟨v,cn,d,sG,p1,p2,rfl,rfl,rfl,g1,g2⟩:=trodAll_cons h
  simp only[List.cons_append,DataW.weightsEach,List.all_append,Bool.and_eq_true]at hw
  cases j with
  | zero =>
   simp only[List.getElem?_cons_zero,Option.some.injEq]at A E
   subst A E
   rcases ah3 hu g1 with h0 | ⟨elems,spare,rfl,O⟩
   ·subst h0;simp
   ·have:=hw.1
    simp only[DataW.weights,hu,List.all_cons,Bool.and_eq_true,decide_eq_true_eq]at this
    have h3:=this.1
    rw[O]at h3
    exact Nat.le_trans (Nat.mul_le_mul_right _ (Nat.le_add_right _ _)) h3
  | succ j=>exact V' g2 hw.2 j t e ab len cap (by simpa using A) (by simpa using E) hu
def JI (P:Program) (ts:List TypeId) (vs:List Value):Prop:=∀(j:Nat) (t e:TypeId) (ab:Option Addr) (len cap:Nat),ts[j]? = some t->vs[j]? = some (.slice ab len cap)->P.underlying t=some (.slice e)->len*P.bytesOf e<=reachBytes
end
theorem afY {aR:Type} {enc:TypeId×Value->aR} {a:Assume} {C:Checked} {os:Os} {f:FuncId} {fn:Func} {s:ChangeSpec} {conds:List PathCond} {apart fresh handsOn again:Bool}
  (own:ownKnob C.prog.godebug=none) (started:os.Started) (noInit:C.prog.inits.idxOf? f=none) (vj:C.prog.funcs[f]? = some fn)
  (witness:∃(w:World) (tape:Tape) (i:Input),w.os=os/\(w.forCall tape i).Shaped C.prog/\i.vars=[]/\Input.okWide C.prog (w.forCall tape i) .any w.heap.size f i /\
   s.pre6 enc C.prog fn conds apart (w.forCall tape i).memory i.args/\a.holds C.prog (lone (Frame.enter C.prog f i.args .normal) [] (w.forCall tape i)))
  (contract:∀(aj:World) (base:Nat) (args:Array Value) (ds gs:List (DataW aR)) (before:List MemPlace),
   (∀(j:Nat) t v,fn.params[j]? = some t->args[j]? = some v->Value.okWide C.prog aj .any base t v) ->
   DataW.Whole enc C.prog fn.params.toList s.vars apart aj args.toList ds gs before ->
   (DataW.weightsEach C.prog (fn.params.toList++s.plain.varTypes C.prog) (ds++gs)).all (· <= reachBytes)=true ->
   Calls C.prog f args aj fun e W'=>∃v,e = .returned v/\s.post enc C.prog fn apart fresh handsOn again aj args v W') :
  ReturnsInHanded a C os f .any (s.pre6 enc C.prog fn conds apart) (s.post enc C.prog fn apart fresh handsOn again):=by
 have h:=returnsInHanded_of_change_and (enc:=enc) (a:=a) (C:=C) (os:=os) (f:=f) (fn:=fn) (s:=s) (conds:=conds) (apart:=apart) (fresh:=fresh) (handsOn:=handsOn) (again:=again) (X:=fun _ _=>True) (fun _ _ _ _ h=>h) own started noInit vj
  (by
   obtain⟨w,t,i,bp,bj,gU,Ej,⟨qr,nT⟩,iN⟩:=witness
   exact⟨w,t,i,bp,bj,gU,Ej,⟨⟨qr,trivial⟩,nT⟩,iN⟩) (fun aj base args ds gs before A E _ h4 _ _=>contract aj base args ds gs before A E h4)
 have e:(fun w args=>(s.pre enc C.prog fn conds apart w args/\True)/\sizedMet enc C.prog fn (OpenSpec.ofChange s) apart w args)=s.pre6 enc C.prog fn conds apart:=by
  funext w args
  simp only[ChangeSpec.pre6,and_true]
 rw[<-e]
 exact h
end Go.Proofs.Xw
namespace Go.Proofs.Xw
open Go Go.Proofs.Aw
def VH (aU:List Nm) (n:Nm):Bool:=aU.any (cC n)
def afr (h:av) (aU:List Nm) (z:Nat):X->X
 | .slv n z' off len w=>if VH aU n=true then(match bl h n with
   | some [.rows aum m l]=>if(Nat.beq z' aum&&(off.beq (.lit 0)&&(len.beq m&&l.wd z')))=true then .rl z' m l false else .top
   | _ => .top)else .slv n z' off len w
 | .k v=>if zE v (.slice none 0 0)=true then .ro z [] false else .k v
 | x=>x
def afs (h:av) (aU:List Nm) (m0:Nm) (z:Nat) (m:Nm) (cs:List X):List X:=if(cC m m0 && !(b0 cs))=true then cs.map (afr h aU z)else cs
def LR (h:av) (aU:List Nm) (m0:Nm) (z:Nat):av->av
 | []=>[]
 | (m,cs)::r=>if VH aU m=true then LR h aU m0 z r else(m,afs h aU m0 z m cs)::LR h aU m0 z r
def XS.frz (aU:List Nm) (m0:Nm) (z:Nat) (s:XS):XS:=⟨s.t,LR s.h aU m0 z s.h,s.nx⟩
end Go.Proofs.Xw
namespace Go.Proofs.Xw
open Go Go.Proofs.Aw Go.ChangeShapes Go.WideShapes
section
variable {aR:Type} {enc:TypeId×Value->aR} {P:Program}
def Good (enc:TypeId×Value->aR) (P:Program) (t:TypeId) (aU:World->List Value->Prop):Prop :=
 ∀(aj:World) (n:Nat) (cs:List Value) (x:DataW aR×List MemPlace),DataW.trod enc P aj 0 (fun _=>true) true n t cs=some x->aU aj cs/\∀(W':World) (sp:Nat->Bool),(∀b,b<aj.heap.size->W'.heap[b]? = aj.heap[b]?)->(∀q∈x.2,sp q.block=true)->DataW.trod enc P W' 0 sp true n t cs=some x
theorem UD {d:Nat} {t:TypeId} {ks:List Kd} (h:lq P d t=some ks):Good enc P t (fun _ cs=>KS ks cs):=fun aj n cs x hx=>by
 obtain⟨_,E,h3⟩:=Ba (enc:=enc) d n t ks h aj 0 (fun _=>true) true cs x hx
 exact⟨E,fun W' sp _ _=>h3 W' 0 sp true⟩
def RR (P:Program) (e:TypeId) (aU:World->List Value->Prop) (aj:World) (cs:List Value):Prop :=
 ∃ab len cap,cs=[.slice ab len cap]/\len<=cap/\cap<=maxLen/\(0<len->∃a,ab=some a/\a.block<aj.heap.size/\∀r,r<len->∃ds,aj.cells? 0 (a.add (r*P.cellsOf e)) (P.cellsOf e)=some ds/\aU aj ds)
theorem UE {t e:TypeId} {aU:World->List Value->Prop} (hu:P.underlying t=some (.slice e)) (hz:0<P.cellsOf e) (Z:Good enc P e aU):Good enc P t (RR P e aU):=fun aj n cs x h=>by
 cases n with
 | zero=>simp[DataW.trod]at h
 | succ n =>
  simp only[DataW.trod_step]at h ⊢
  unfold DataW.trodStep at h ⊢
  rw[hu]at h
  simp only[hu]at h ⊢
  match cs,h with
  | [.slice none 0 0],h =>
   exact⟨⟨none,0,0,rfl,Nat.le_refl _,Nat.zero_le _,fun W=>absurd W (by omega)⟩,fun W' sp _ _=>h⟩
  | [.slice (some a) len cap],h =>
   simp only at h ⊢
   split at h
   ·rename_i H
    obtain⟨elems,F,h⟩:=Option.bind_eq_some_iff.1 h
    obtain⟨rest,hr,rfl⟩:=Option.map_eq_some_iff.1 h
    simp only[if_true]at hr
    have one:∀i y,(aj.cells? 0 (a.add (i*P.cellsOf e)) (P.cellsOf e)).bind (DataW.trod enc P aj 0 (fun _=>true) true n e)=some y ->
      ∃ds,aj.cells? 0 (a.add (i*P.cellsOf e)) (P.cellsOf e)=some ds/\aU aj ds/\∀(W':World) (sp:Nat->Bool),(∀b,b<aj.heap.size->W'.heap[b]? = aj.heap[b]?)->(∀q∈y.2,sp q.block=true)->DataW.trod enc P W' 0 sp true n e ds=some y:=fun i y hy=>by
     obtain⟨ds,A,E⟩:=Option.bind_eq_some_iff.1 hy
     obtain⟨g2,g3⟩:=Z aj n ds y E
     exact⟨ds,A,g2,g3⟩
    refine⟨⟨some a,len,cap,rfl,H.2.1,H.2.2,fun O=>⟨a,rfl,?_,fun r mo => ?_⟩⟩,fun W' sp FD yb => ?_⟩
    ·obtain⟨y,hy⟩:=Ck F 0 (by simpa using O)
     obtain⟨ds,A,_⟩:=one 0 y hy
     have:=World.cells?_block A hz
     simpa [block_add]using this
    ·obtain⟨y,hy⟩:=Ck F r (by simpa using mo)
     obtain⟨ds,A,E,_⟩:=one r y hy
     exact⟨ds,A,E⟩
    ·rw[if_pos H]
     have carry:∀i y,y∈elems++rest->(aj.cells? 0 (a.add (i*P.cellsOf e)) (P.cellsOf e)).bind (DataW.trod enc P aj 0 (fun _=>true) true n e)=some y ->
       (W'.cells? 0 (a.add (i*P.cellsOf e)) (P.cellsOf e)).bind (DataW.trod enc P W' 0 sp true n e)=some y:=fun i y hm hy=>by
      obtain⟨ds,A,_,h3⟩:=one i y hy
      rw[SF FD hz A]
      exact h3 W' sp FD fun q hq=>yb q (List.mem_append_right _ (List.mem_flatMap.2 ⟨y,hm,hq⟩))
     have e1:=mapM_carry (g:=fun i=>(W'.cells? 0 (a.add (i*P.cellsOf e)) (P.cellsOf e)).bind (DataW.trod enc P W' 0 sp true n e)) F fun i y _ vA hy=>carry i y (List.mem_append_left _ vA) hy
     rw[e1]
     simp only[Option.bind_some]
     have e2:(if sp a.block=true then(List.range (cap-len)).mapM fun j=>(W'.cells? 0 (a.add ((len+j)*P.cellsOf e)) (P.cellsOf e)).bind (DataW.trod enc P W' 0 sp true n e)else some [])=some rest:=by
      have e3:=mapM_carry (g:=fun j=>(W'.cells? 0 (a.add ((len+j)*P.cellsOf e)) (P.cellsOf e)).bind (DataW.trod enc P W' 0 sp true n e)) hr fun j y _ vA hy=>carry (len+j) y (List.mem_append_right _ vA) hy
      split
      ·exact e3
      ·rename_i MK
       have gk:rest.length=cap-len:=by
        have:=GO hr
        simpa using this
       by_cases h0:cap-len=0
       ·rw[h0]at gk
        rw[List.length_eq_zero_iff.1 gk]
       ·exfalso
        apply MK
        refine yb (.cell a.block (a.off+0)) (List.mem_append_left _ (MemPlace.mem_row.2 ⟨0,?_,rfl⟩))
        exact Nat.mul_pos (by omega) hz
     rw[e2];rfl
   ·cases h
theorem afj {e:TypeId} {ks:List Kd} (kB:0<ks.length) (hz:ks.length=P.cellsOf e) {aj:World} {cs:List Value} (h:RR P e (fun _ ds=>KS ks ds) aj cs):∃v,cs=[v]/\Fits aj (.sl ks) v/\mB (some v)<=maxLen:=by
 obtain⟨ab,len,cap,rfl,a0,hm,hr⟩:=h
 refine⟨_,rfl,⟨kB,ab,len,cap,rfl,a0,fun O => ?_⟩,Nat.le_trans a0 hm⟩
 obtain⟨a,hA,hb,hr⟩:=hr O
 refine⟨a,hA,hb,fun r mo => ?_⟩
 obtain⟨ds,A,E⟩:=hr r mo
 obtain⟨_,_,h4⟩:=World.cells?_some A
 exact⟨ds,E,fun k aJ=>by rw[hz];exact h4 k (by omega)⟩
def NK (aj:World):List Nk->List Value->Prop
 | [],vs=>vs=[]
 | .f k::ks,vs=>∃v r,vs=v::r/\B6 k v/\NK aj ks r
 | .r z _ kk::ks,vs=>∃v r,vs=v::r/\(Fits aj (.sl kk) v/\mB (some v)<=maxLen/\z=kk.length)/\NK aj ks r
theorem NK.flat {aj:World}:∀{l:List Kd} {c:List Value},KS l c->NK aj (l.map .f) c
 | [],_,h=>h
 | _::_,_,⟨v,r,e,R,hr⟩=>⟨v,r,e,R,NK.flat hr⟩
theorem NK.append {aj:World}:∀{l m:List Nk} {c d:List Value},NK aj l c->NK aj m d->NK aj (l++m) (c++d)
 | [],m,c,d,h,h'=>by simp only[NK]at h;subst h;exact h'
 | .f _::l,m,c,d,⟨v,r,e,R,hr⟩,h'=>by subst e;exact⟨v,r++d,rfl,R,NK.append hr h'⟩
 | .r _ _ _::l,m,c,d,⟨v,r,e,R,hr⟩,h'=>by subst e;exact⟨v,r++d,rfl,R,NK.append hr h'⟩
theorem NK.length {aj:World}:∀{l:List Nk} {c:List Value},NK aj l c->c.length=l.length
 | [],c,h=>by simp only[NK]at h;subst h;rfl
 | .f _::l,c,⟨v,r,e,_,hr⟩=>by subst e;simp[NK.length hr]
 | .r _ _ _::l,c,⟨v,r,e,_,hr⟩=>by subst e;simp[NK.length hr]
def AG (P:Program) (p:Nat->TypeId->Option (List Nk)) (base:Nat):Nat->List Field->Option (List Nk)
 | _,[]=>some []
 | off,f::fs=>if f.offset=off then(p (base+off) f.type).bind fun l=>if l.length=P.cellsOf f.type then(AG P p base (off+P.cellsOf f.type) fs).map fun r=>l++r else none else none
def AH (P:Program) (S:Nat):Nat->Nat->TypeId->Option (List Nk)
 | 0,_,_=>none
 | d+1,off,t=>match lq P 8 t with
  | some l=>some (l.map .f)
  | none=>match P.underlying t with
   | some (.slice e)=>(match lq P 8 e with
    | some kk=>if 0<kk.length/\kk.length=P.cellsOf e then some [.r kk.length (S+off) kk]else none
    | none=>none)
   | some (.struct fs)=>(AG P (AH P S d) off 0 fs.toList).bind fun l=>if l.length=P.cellsOf t then some l else none
   | _=>none
theorem Td {aj:World} {n:Nat} {cs:List Value} {p:Nat->TypeId->Option (List Nk)} {base:Nat} (hp:∀off t ks,p off t=some ks->Good enc P t (fun aj cs=>NK aj ks cs)):∀(fs:List Field) (off:Nat) (ks:List Nk) (xs:List (DataW aR×List MemPlace)),AG P p base off fs=some ks->fs.mapM (fun f=>DataW.trod enc P aj 0 (fun _=>true) true n f.type ((cs.drop f.offset).take (P.cellsOf f.type)))=some xs ->
  NK aj ks ((cs.drop off).take ks.length)/\∀(W':World) (sp:Nat->Bool),(∀b,b<aj.heap.size->W'.heap[b]? = aj.heap[b]?)->(∀q∈xs.flatMap (·.2),sp q.block=true)->fs.mapM (fun f=>DataW.trod enc P W' 0 sp true n f.type ((cs.drop f.offset).take (P.cellsOf f.type)))=some xs
 | [],off,ks,xs,h,hm=>by
  simp only[AG,Option.some.injEq]at h
  subst h
  simp at hm
  subst hm
  exact⟨by simp[NK],fun _ _ _ _=>rfl⟩
 | f::fs,off,ks,xs,h,hm=>by
  simp only[AG]at h
  split at h
  ·rename_i q'
   obtain⟨l,O,h⟩:=Option.bind_eq_some_iff.1 h
   split at h
   ·rename_i hlen
    obtain⟨lA,u,rfl⟩:=Option.map_eq_some_iff.1 h
    simp only[List.mapM_cons,bind,Option.bind_eq_some_iff,pure,Option.some.injEq]at hm
    obtain⟨y,hy,ys,jH,rfl⟩:=hm
    obtain⟨bp,bj⟩:=hp _ _ l O aj n _ y hy
    obtain⟨b1,b2⟩:=Td hp fs _ lA ys u jH
    subst q'
    refine⟨?_,fun W' sp hW hq => ?_⟩
    ·rw[List.length_append,Tt,hlen]
     exact NK.append bp b1
    ·have e1:=bj W' sp hW fun q h2=>hq q (by rw[List.flatMap_cons];exact List.mem_append_left _ h2)
     have e2:=b2 W' sp hW fun q h2=>hq q (by rw[List.flatMap_cons];exact List.mem_append_right _ h2)
     simp only[List.mapM_cons,bind,e1,e2,Option.bind_some,pure]
   ·cases h
  ·cases h
theorem L0 {S:Nat}:∀(d off:Nat) (t:TypeId) (ks:List Nk),AH P S d off t=some ks->Good enc P t (fun aj cs=>NK aj ks cs)
 | 0,_,_,_,h=>by cases h
 | d+1,off,t,ks,h=>fun aj n cs x hx=>by
  simp only[AH]at h
  split at h
  ·rename_i l O
   cases h
   obtain⟨g1,g2⟩:=UD (enc:=enc) O aj n _ x hx
   exact⟨NK.flat g1,g2⟩
  ·split at h
   ·rename_i e hu
    split at h
    ·rename_i kk FU
     split at h
     ·rename_i H
      cases h
      obtain⟨g1,g2⟩:=UE (enc:=enc) hu (by omega) (UD FU) aj n _ x hx
      obtain⟨v,R,hf,hm⟩:=afj H.1 H.2 g1
      exact⟨by rw[R];exact⟨v,[],rfl,⟨hf,hm,rfl⟩,rfl⟩,g2⟩
     ·cases h
    ·cases h
   ·rename_i fs hu
    obtain⟨l,O,h⟩:=Option.bind_eq_some_iff.1 h
    split at h
    ·rename_i hlen
     cases h
     cases n with
     | zero=>simp[DataW.trod]at hx
     | succ n =>
      simp only[DataW.trod_step]at hx ⊢
      unfold DataW.trodStep at hx ⊢
      rw[hu]at hx
      simp only[hu]at hx ⊢
      split at hx
      ·rename_i H
       obtain⟨xs,vz,rfl⟩:=Option.map_eq_some_iff.1 hx
       obtain⟨b1,b2⟩:=Td (enc:=enc) (base:=off) (fun o t ks h=>L0 d o t ks h) fs.toList 0 ks xs O vz
       refine⟨?_,fun W' sp hW hq => ?_⟩
       ·rw[List.drop_zero,List.take_of_length_le (by omega)]at b1
        exact b1
       ·rw[if_pos H,b2 W' sp hW hq];rfl
      ·cases hx
    ·cases h
   ·cases h
end
end Go.Proofs.Xw
