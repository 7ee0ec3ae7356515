/- Parts of the logic that the proof runs in, one behind the other. -/
import Derived.Test.YtpdfmnhgocpkcaaGreatXwM2
import Derived.Test.YtpdfmnhgocpkcaaGreatAwM2
import Derived.ChangeReads
import Derived.ChangeShapes
import Derived.RowKit
import Derived.RowKit3
import Derived.Handed
namespace Go.Proofs.Xw
open Go Go.Proofs.Aw
structure Sub where
 i:List (Nat×U)
 b:List (Nat×BE)
 s:List (Nat×TE)
def assoc {ao:Type} (k:Nat):List (Nat×ao)->Option ao
 | []=>none
 | (j,v)::r=>if Nat.beq j k=true then some v else assoc k r
noncomputable def Sub.ap (V:Sub) (ρ:aa):aa :=
  { ρ with i:=fun k=>match assoc k V.i with | some e=>e.I ρ | none=>ρ.i k,
           b:=fun k=>match assoc k V.b with | some e=>e.I ρ | none=>ρ.b k,
           s:=fun k=>match assoc k V.s with | some e=>e.I ρ | none=>ρ.s k }
mutual
def U.pu (V:Sub):U->U
 | .lit n => .lit n
 | .var i=>match assoc i V.i with | some e=>e | none => .var i
 | .cl l k j => .cl l k (j.pu V)
 | .len l => .len l
 | .cB t=>s7 (t.pu V)
 | .fD t j=>Gy (t.pu V) (j.pu V)
 | .op o k a b=>hQ o k (a.pu V) (b.pu V)
 | .ite c a b=>lr (c.pu V) (a.pu V) (b.pu V)
 | .uf k j a => .uf k j (a.pu V)
def AL.pu (V:Sub):AL->AL
 | .nil => .nil
 | .i e r => .i (e.pu V) (r.pu V)
 | .b e r => .b (e.pu V) (r.pu V)
 | .s e r => .s (e.pu V) (r.pu V)
def BE.pu (V:Sub):BE->BE
 | .lit b => .lit b
 | .var i=>match assoc i V.b with | some e=>e | none => .var i
 | .cl l k j => .cl l k (j.pu V)
 | .lt a b=>mkLt (a.pu V) (b.pu V)
 | .eq a b=>mkEq (a.pu V) (b.pu V)
 | .seq a b=>mkSeq (a.pu V) (b.pu V)
 | .slt a b => .slt (a.pu V) (b.pu V)
 | .not a=>mkNot (a.pu V)
 | .and a b=>mkAnd (a.pu V) (b.pu V)
 | .or a b=>mkOr (a.pu V) (b.pu V)
 | .ite c a b=>iq (c.pu V) (a.pu V) (b.pu V)
def TE.pu (V:Sub):TE->TE
 | .lit s => .lit s
 | .var i=>match assoc i V.s with | some e=>e | none => .var i
 | .cl l k j => .cl l k (j.pu V)
 | .sub t a b => .sub (t.pu V) (a.pu V) (b.pu V)
 | .ite c a b=>GA (c.pu V) (a.pu V) (b.pu V)
end
mutual
theorem U.bJ (V:Sub) (ρ:aa):∀e:U,(e.pu V).I ρ=e.I (V.ap ρ)
 | .lit n=>rfl
 | .var i=>by
  simp only[U.pu,U.I,Sub.ap]
  cases h:assoc i V.i<;>simp only[U.I]
 | .cl l k j=>by simp only[U.pu,U.I,U.bJ V ρ j];rfl
 | .len l=>rfl
 | .cB t=>by simp only[U.pu,yF,U.I,TE.bJ V ρ t]
 | .fD t j=>by simp only[U.pu,Wm,U.I,TE.bJ V ρ t,U.bJ V ρ j]
 | .op o k a b=>by simp only[U.pu,ow,U.I,U.bJ V ρ a,U.bJ V ρ b]
 | .ite c a b=>by simp only[U.pu,s6,U.I,BE.bJ V ρ c,U.bJ V ρ a,U.bJ V ρ b]
 | .uf _ _ a=>by simp only[U.pu,U.I,AL.bJ V ρ a]
theorem AL.bJ (V:Sub) (ρ:aa):∀e:AL,(e.pu V).I ρ=e.I (V.ap ρ)
 | .nil=>rfl
 | .i e r=>by simp only[AL.pu,AL.I,U.bJ V ρ e,AL.bJ V ρ r]
 | .b e r=>by simp only[AL.pu,AL.I,BE.bJ V ρ e,AL.bJ V ρ r]
 | .s e r=>by simp only[AL.pu,AL.I,TE.bJ V ρ e,AL.bJ V ρ r]
theorem BE.bJ (V:Sub) (ρ:aa):∀e:BE,(e.pu V).I ρ=e.I (V.ap ρ)
 | .lit n=>rfl
 | .var i=>by
  simp only[BE.pu,BE.I,Sub.ap]
  cases h:assoc i V.b<;>simp only[BE.I]
 | .cl l k j=>by simp only[BE.pu,BE.I,U.bJ V ρ j];rfl
 | .lt a b=>by simp only[BE.pu,gY,BE.I,U.bJ V ρ a,U.bJ V ρ b]
 | .eq a b=>by simp only[BE.pu,eQ,BE.I,U.bJ V ρ a,U.bJ V ρ b]
 | .seq a b=>by simp only[BE.pu,N4,BE.I,TE.bJ V ρ a,TE.bJ V ρ b]
 | .slt a b=>by simp only[BE.pu,BE.I,TE.bJ V ρ a,TE.bJ V ρ b]
 | .not a=>by simp only[BE.pu,et,BE.I,BE.bJ V ρ a]
 | .and a b=>by simp only[BE.pu,fM,BE.I,BE.bJ V ρ a,BE.bJ V ρ b]
 | .or a b=>by simp only[BE.pu,ox,BE.I,BE.bJ V ρ a,BE.bJ V ρ b]
 | .ite c a b=>by simp only[BE.pu,kx,BE.I,BE.bJ V ρ c,BE.bJ V ρ a,BE.bJ V ρ b]
theorem TE.bJ (V:Sub) (ρ:aa):∀e:TE,(e.pu V).I ρ=e.I (V.ap ρ)
 | .lit n=>rfl
 | .var i=>by
  simp only[TE.pu,TE.I,Sub.ap]
  cases h:assoc i V.s<;>simp only[TE.I]
 | .cl l k j=>by simp only[TE.pu,TE.I,U.bJ V ρ j];rfl
 | .sub t a b=>by simp only[TE.pu,TE.I,TE.bJ V ρ t,U.bJ V ρ a,U.bJ V ρ b]
 | .ite c a b=>by simp only[TE.pu,Wn,TE.I,BE.bJ V ρ c,TE.bJ V ρ a,TE.bJ V ρ b]
end
def Sc.pu (V:Sub):Sc->Sc
 | .i k e => .i k (e.pu V)
 | .b e => .b (e.pu V)
 | .s e => .s (e.pu V)
 | .f n z => .f (n.pu V) (z.pu V)
 | .c n z m y => .c (n.pu V) (z.pu V) (m.pu V) (y.pu V)
theorem Sc.bJ (V:Sub) (ρ:aa) (s:Sc):(s.pu V).I ρ=s.I (V.ap ρ):=by
 cases s<;>simp only[Sc.pu,Sc.I,U.bJ,BE.bJ,TE.bJ]
def RL.pu (V:Sub):RL->RL
 | .var l ks => .var l ks
 | .one r => .one (r.map (Sc.pu V))
 | .app n a b => .app (n.pu V) (a.pu V) (b.pu V)
 | .drop n a => .drop (n.pu V) (a.pu V)
 | .eK i r a => .eK (i.pu V) (r.map (Sc.pu V)) (a.pu V)
 | .ite c a b => .ite (c.pu V) (a.pu V) (b.pu V)
theorem RL.v8 (V:Sub) (ρ:aa):∀(l:RL) (j:Int),(l.pu V).row ρ j=l.row (V.ap ρ) j
 | .var l ks,j=>by
  simp only[RL.pu,RL.row]
  generalize j.toNat=m
  have:∀(ks:List Kd) (k:Nat),bH ρ l k ks m=bH (V.ap ρ) l k ks m:=fun ks=>by
   induction ks with
   | nil=>intro k;rfl
   | cons kd ks ih=>intro k;cases kd<;>simp only[bH,ih]<;>rfl
  exact this ks 0
 | .one r,j=>by
  simp only[RL.pu,RL.row,ca,List.map_map]
  congr 1
  funext s
  simp only[Function.comp,Sc.bJ]
 | .app n a b,j=>by
  simp only[RL.pu,RL.row,RL.v8 V ρ a,RL.v8 V ρ b,U.bJ]
 | .drop n a,j=>by simp only[RL.pu,RL.row,RL.v8 V ρ a,U.bJ]
 | .eK i r a,j=>by
  simp only[RL.pu,RL.row,RL.v8 V ρ a,U.bJ,ca,List.map_map]
  congr 2
  funext s
  simp only[Function.comp,Sc.bJ]
 | .ite c a b,j=>by simp only[RL.pu,RL.row,RL.v8 V ρ a,RL.v8 V ρ b,BE.bJ]
theorem aqM (V:Sub) (ρ:aa) (n:U) (l:RL):aV ρ (n.pu V) (l.pu V)=aV (V.ap ρ) n l:=by
 unfold aV
 rw[U.bJ]
 congr 1
 funext j
 exact RL.v8 V ρ l j
theorem Si (V:Sub) (ρ:aa) (l m:Nat):∀(ks:List Kd) (k:Nat),bH ρ l k ks m=bH (V.ap ρ) l k ks m
 | [],_=>rfl
 | kd::ks,k=>by cases kd<;>simp only[bH,Si V ρ l m ks (k+1)]<;>rfl
theorem JX (V:Sub) (ρ:aa) (l m:Nat):∀(ks:List Nk) (k:Nat),dL ρ l k ks m=dL (V.ap ρ) l k ks m
 | [],_=>rfl
 | .f kd::ks,k=>by cases kd<;>simp only[dL,rZ,JX V ρ l m ks (k+1)]<;>rfl
 | .r z S kk::ks,k=>by
  simp only[dL,oJ,JX V ρ l m ks (k+1),Si V ρ S]
  rfl
theorem aqO (V:Sub) (ρ:aa) (n:U) (l:Nat) (ks:List Nk):fS ρ (n.pu V) l ks=fS (V.ap ρ) n l ks:=by
 unfold fS
 rw[U.bJ]
 congr 1
 funext j
 exact JX V ρ l j ks 0
theorem aqR (V:Sub) (ρ:aa) (z:Nat) (m:U) (t:Nat):bC ρ z (m.pu V) t=bC (V.ap ρ) z m t:=by
 unfold bC
 rw[U.bJ]
 rfl
def zZ (V:Sub):List (BE×Nat)->List (BE×Nat)
 | []=>[]
 | (c,o)::r=>(c.pu V,o)::zZ V r
theorem J4 (V:Sub) (ρ:aa) (d:Nat):∀aG,choose ρ (zZ V aG) d=choose (V.ap ρ) aG d
 | []=>rfl
 | (c,o)::r=>by simp only[zZ,choose,BE.bJ,J4 V ρ d r]
mutual
def X.pu (V:Sub):X->X
 | .top => .top
 | .k v => .k v
 | .sc s => .sc (s.pu V)
 | .agg cs => .agg (X.pK V cs)
 | .tup cs => .tup (X.pK V cs)
 | .ptr n aG d => .ptr n (zZ V aG) d
 | .sl n z off len own => .sl n z off len own
 | .ip cs aG d => .ip (X.pK V cs) (zZ V aG) d
 | .ro z D full => .ro z (X.yT V D) full
 | .rl z n l full => .rl z (n.pu V) (l.pu V) full
 | .rn z n l ks full => .rn z (n.pu V) l ks full
 | .tk z m t D => .tk z (m.pu V) t (X.yT V D)
 | .tq z m t D full => .tq z (m.pu V) t (X.yT V D) full
 | .cJ t o j => .cJ t o (j.pu V)
 | .fn f xs ys => .fn f (X.pK V xs) (X.pK V ys)
 | .gd c x => .gd (c.pu V) (x.pu V)
 | .rows z n l => .rows z (n.pu V) (l.pu V)
 | .slv n z o l w => .slv n z (o.pu V) (l.pu V) w
 | .dv n z j o => .dv n z (j.pu V) o
def X.pK (V:Sub):List X->List X
 | []=>[]
 | x::xs=>x.pu V::X.pK V xs
def X.yT (V:Sub):List (List X)->List (List X)
 | []=>[]
 | e::D=>X.pK V e::X.yT V D
end
mutual
theorem X.bJ (V:Sub) (ρ:aa):∀x:X,(x.pu V).I ρ=x.I (V.ap ρ)
 | .top=>rfl
 | .k v=>rfl
 | .sc s=>by simp only[X.pu,X.I,Sc.bJ]
 | .agg cs=>by simp only[X.pu,X.I,X.th V ρ cs]
 | .tup cs=>by simp only[X.pu,X.I,X.th V ρ cs]
 | .ptr n aG d=>by simp only[X.pu,X.I,J4]
 | .sl n z off len own=>rfl
 | .ip cs aG d=>by simp only[X.pu,X.I,X.th V ρ cs,J4]
 | .ro z D full=>by simp only[X.pu,X.I,X.Pg V ρ D]
 | .rl z n l full=>by simp only[X.pu,X.I,aqM]
 | .rn z n l ks full=>by simp only[X.pu,X.I,aqO]
 | .tk z m t D=>by simp only[X.pu,X.I]
 | .tq z m t D full=>by simp only[X.pu,X.I,aqR,X.Pg V ρ D]
 | .cJ t o j=>by simp only[X.pu,X.I,U.bJ];rfl
 | .fn f xs ys=>by simp only[X.pu,X.I,X.th V ρ xs,X.th V ρ ys]
 | .gd c x=>by simp only[X.pu,X.I,BE.bJ,X.bJ V ρ x]
 | .rows z n l=>by simp only[X.pu,X.I]
 | .slv n z o l w=>by simp only[X.pu,X.I,U.bJ]
 | .dv n z j o=>by simp only[X.pu,X.I,U.bJ]
theorem X.th (V:Sub) (ρ:aa):∀x:List X,X.af ρ (X.pK V x)=X.af (V.ap ρ) x
 | []=>rfl
 | x::xs=>by simp only[X.pK,X.af,X.bJ V ρ x,X.th V ρ xs]
theorem X.Pg (V:Sub) (ρ:aa):∀x:List (List X),X.aX ρ (X.yT V x)=X.aX (V.ap ρ) x
 | []=>rfl
 | x::xs=>by simp only[X.yT,X.aX,X.th V ρ x,X.Pg V ρ xs]
end
mutual
def X.fit:X->X->Sub->Option Sub
 | .sc (.i kk (.var i)),.sc (.i VP e),V=>if ml kk VP=true then some { V with i:=(i,e)::V.i }else none
 | .sc (.b (.var i)),.sc (.b e),V=>some { V with b:=(i,e)::V.b }
 | .sc (.s (.var i)),.sc (.s e),V=>some { V with s:=(i,e)::V.s }
 | .sc (.c (.var i) _ (.var j) _),.sc (.c e _ f _),V=>some { V with i:=(i,e)::(j,f)::V.i }
 | .agg cs,.agg ds,V=>X.AS cs ds V
 | .tup cs,.tup ds,V=>X.AS cs ds V
 | .ro z D _,.ro z' ds _,V=>if Nat.beq z z'=true then X.TY D ds V else none
 | _,_,V=>some V
def X.AS:List X->List X->Sub->Option Sub
 | [],[],V=>some V
 | a::aG,b::bs,V=>match X.fit a b V with
  | some V=>X.AS aG bs V
  | none=>none
 | _,_,_=>none
def X.TY:List (List X)->List (List X)->Sub->Option Sub
 | [],[],V=>some V
 | a::aG,b::bs,V=>match X.AS a b V with
  | some V=>X.TY aG bs V
  | none=>none
 | _,_,_=>none
end
def X.Dk:X->X
 | .ro z D _ => .ro z D false
 | .rl z n l _ => .rl z n l false
 | .rn z n l ks _ => .rn z n l ks false
 | .tq z m t D _ => .tq z m t D false
 | x=>x
theorem atC {ρ:aa} {C:Ctx} (x:X) {Y:Value} (h:aj C (x.I ρ) Y):aj C (x.Dk.I ρ) Y:=by
 cases x<;>first | exact h | (simp only[X.Dk,X.I]at h ⊢;exact HP (f':=false) (fun h=>(nomatch h)) h)
theorem QO {ρ:aa} (C:Ctx):∀(l:List X) (vs:List Value),aC C (X.af ρ l) vs->aC C (X.af ρ (l.map X.Dk)) vs
 | [],_,h=>h
 | x::xs,_,⟨Y,us,e,A,E⟩=>⟨Y,us,e,atC x A,QO C xs us E⟩
def CE:BE->BE
 | .and a b=>mkAnd (CE a) (CE b)
 | a=>a
theorem Pn (ρ:aa):∀a:BE,(CE a).I ρ=a.I ρ
 | .and a b=>by simp only[CE,fM,Pn ρ a,Pn ρ b,BE.I]
 | .lit _ | .var _ | .cl _ _ _ | .lt _ _ | .eq _ _ | .seq _ _ | .slt _ _ | .not _ | .or _ _ | .ite _ _ _=>rfl
structure Sm where
 f:Nat
 pat:List X
 r:X
 pre:BE
def c4 (P:Program) (s:Sm):Prop:=b_ P s.f=true/\∀(ρ:aa) (n:Nat) (h:Hp),s.pre.I ρ=true->CY P n s.f (X.af ρ s.pat) h (s.r.I ρ) []
def aai (args:List X) (s:Sm):Option (BE×X) :=
 let args:=args.map X.Dk
 match X.AS s.pat args ⟨[],[],[]⟩with
 | some V=>if X.fh (X.pK V s.pat) args=true then some (CE (s.pre.pu V),s.r.pu V)else none
 | none=>none
def B2 (f:Nat) (args:List X):List Sm->Option (BE×X)
 | []=>none
 | s::l=>if Nat.beq s.f f=true then(match aai args s with
  | some r=>some r
  | none=>B2 f args l)else B2 f args l
theorem NH {P:Program} {ρ:aa} {n:Nat} {h:Hp} {f:Nat} {args:List X} {c:BE} {r:X}:∀{l:List Sm},(∀s∈l,c4 P s)->B2 f args l=some (c,r)->b_ P f=true/\(c.I ρ=true->CY P n f (X.af ρ args) h (r.I ρ) [])
 | [],_,M=>by cases M
 | s::l,hs,M=>by
  have cu:∀s∈l,c4 P s:=fun t ht=>hs t (List.mem_cons_of_mem _ ht)
  simp only[B2]at M
  split at M
  ·rename_i hf
   have hf:=Nat.eq_of_beq_eq_true hf
   split at M
   ·rename_i r' hu
    cases M
    obtain⟨A,E⟩:=hs s List.mem_cons_self
    unfold aai at hu
    simp only at hu
    split at hu
    ·rename_i V _
     split at hu
     ·rename_i hb
      cases hu
      have hb:=X.gO _ _ hb
      have:=E (V.ap ρ) n h
      rw[hf]at this A
      refine⟨A,fun H => ?_⟩
      rw[Pn,BE.bJ]at H
      have:=this H
      rw[<-X.th,<-X.bJ,hb]at this
      exact fun C vs W hL hn=>this C vs W (QO C args vs hL) hn
     ·cases hu
    ·cases hu
   ·exact NH cu M
  ·exact NH cu M
theorem Y4 (ρ:aa) (r:List Sc):∀x∈ca ρ r,∃v,x=AV.sc v:=fun x hx=>by
 obtain⟨s,_,rfl⟩:=List.mem_map.1 hx
 exact⟨_,rfl⟩
theorem Eu (ρ:aa) (l j:Nat):∀(ks:List Kd) (k:Nat),∀x∈bH ρ l k ks j,∃v,x=AV.sc v
 | [],_,x,hx=>by simp[bH]at hx
 | .i _::ks,k,x,hx=>by
  simp only[bH,List.mem_cons]at hx
  rcases hx with rfl | hx
  ·exact⟨_,rfl⟩
  ·exact Eu ρ l j ks (k+1) x hx
 | .b::ks,k,x,hx=>by
  simp only[bH,List.mem_cons]at hx
  rcases hx with rfl | hx
  ·exact⟨_,rfl⟩
  ·exact Eu ρ l j ks (k+1) x hx
 | .s::ks,k,x,hx=>by
  simp only[bH,List.mem_cons]at hx
  rcases hx with rfl | hx
  ·exact⟨_,rfl⟩
  ·exact Eu ρ l j ks (k+1) x hx
theorem wa (ρ:aa):∀(l:RL) (j:Int),∀x∈l.row ρ j,∃v,x=AV.sc v
 | .var l ks,j=>Eu ρ l _ ks 0
 | .one r,j=>Y4 ρ r
 | .app n a b,j=>by
  simp only[RL.row]
  split
  ·exact wa ρ a _
  ·exact wa ρ b _
 | .drop n a,j=>wa ρ a _
 | .eK i r a,j=>by
  simp only[RL.row]
  split
  ·exact Y4 ρ r
  ·exact wa ρ a _
 | .ite c a b,j=>by
  simp only[RL.row]
  split
  ·exact wa ρ a _
  ·exact wa ρ b _
def OR (z:Nat) (D:List (List X)):Bool:=D.all fun e=>Nat.beq e.length z&&(X.ly e&&e.all X.one)
def J6 (B:J) (z:Nat):X->Bool
 | .ro z' [] _=>Nat.beq z' z
 | .rl z' n _ _=>Nat.beq z' z&&(match red B (mkEq n (.lit 0))with | .lit true=>true | _=>false)
 | _=>false
theorem ady {ρ:aa} {B:J} (u:J.ok ρ B) {z:Nat} {x:X} (h:J6 B z x=true):∃full,x.I ρ = .ro z [] full:=by
 unfold J6 at h
 split at h
 ·rw[Nat.eq_of_beq_eq_true h];exact⟨_,rfl⟩
 ·rename_i n _ _
  simp only[Bool.and_eq_true]at h
  obtain⟨A,E⟩:=h
  have A:=Nat.eq_of_beq_eq_true A
  subst A
  split at E
  ·rename_i e
   have hr:=c9 u (mkEq n (.lit 0))
   rw[e,eQ]at hr
   have hr:n.I ρ=0:=eq_of_beq (show(n.I ρ==0)=true from hr.symm)
   have e0:∀l,aV ρ n l=[]:=fun l=>by unfold aV;rw[hr];rfl
   exact⟨_,by simp only[X.I,e0];rfl⟩
  ·cases E
 ·cases h
def Gh (f:Nat) (args:List X) (B:J):List (Nat×Nat)->Option X
 | []=>none
 | (g,z)::l=>if Nat.beq g f=true then(match args with
  | [x]=>if J6 B z x=true then some (.ro z [] false)else none
  | _=>none)else Gh f args B l
theorem V2 {P:Program} {ρ:aa} {B:J} (u:J.ok ρ B) {n f:Nat} {args:List X} {h:Hp} {r:X}:∀{l:List (Nat×Nat)},(∀k∈l,ua P k)->Gh f args B l=some r->b_ P f=true/\CY P n f (X.af ρ args) h (r.I ρ) []
 | [],_,hq=>by cases hq
 | (g,z)::l,H,hq=>by
  simp only[Gh]at hq
  split at hq
  ·rename_i hf
   have hf:=Nat.eq_of_beq_eq_true hf
   subst hf
   split at hq
   ·rename_i x
    split at hq
    ·rename_i hx
     cases hq
     obtain⟨full,e⟩:=ady u hx
     obtain⟨g1,g2⟩:=H _ List.mem_cons_self
     refine⟨g1,?_⟩
     simp only[X.af,e]
     exact g2 full n h
    ·cases hq
   ·cases hq
  ·exact V2 u (fun k aM=>H k (List.mem_cons_of_mem _ aM)) hq
structure cj where
 c:h8
 sm:List Sm
 hf:List Nat
def qZ (n:Nat):List Nat->Bool
 | []=>false
 | k::l=>Nat.beq k n||qZ n l
mutual
def X.plain:X->Bool
 | .top | .k _ | .sc _ | .rows _ _ _=>true
 | .agg cs | .tup cs=>X.Hk cs
 | .gd _ x=>x.plain
 | .ro _ [] _=>true
 | _=>false
def X.Hk:List X->Bool
 | []=>true
 | x::xs=>x.plain&&X.Hk xs
end
mutual
theorem X.O6 (ρ:aa):∀x:X,x.plain=true->Hj (x.I ρ)=true
 | .top,_=>rfl
 | .k _,_=>rfl
 | .sc _,_=>rfl
 | .rows _ _ _,_=>rfl
 | .agg cs,h=>X.O5 ρ cs h
 | .tup cs,h=>X.O5 ρ cs h
 | .gd c x,h=>by
  simp only[X.I]
  split
  ·exact X.O6 ρ x h
  ·rfl
 | .ptr _ _ _,h=>by cases h
 | .sl _ _ _ _ _,h=>by cases h
 | .ip _ _ _,h=>by cases h
 | .ro _ [] _,_=>rfl
 | .ro _ (_::_) _,h=>by cases h
 | .rl _ _ _ _,h=>by cases h
 | .rn _ _ _ _ _,h=>by cases h
 | .tk _ _ _ _,h=>by cases h
 | .tq _ _ _ _ _,h=>by cases h
 | .cJ _ _ _,h=>by cases h
 | .fn _ _ _,h=>by cases h
 | .slv _ _ _ _ _,h=>by cases h
 | .dv _ _ _ _,h=>by cases h
theorem X.O5 (ρ:aa):∀l:List X,X.Hk l=true->v5 (X.af ρ l)=true
 | [],_=>rfl
 | x::xs,h=>by
  simp only[X.Hk,Bool.and_eq_true]at h
  simp only[X.af,v5,X.O6 ρ x h.1,X.O5 ρ xs h.2,Bool.and_self]
end
def Yk:Rows->Bool
 | .c D=>X.vO D
 | .r _ _=>true
theorem aqQ {ρ:aa} {r:Rows} (h:Yk r=true):cq (fun _=>false) (r.I ρ)=true:=by
 cases r with
 | c D=>exact X.Ci ρ D h
 | r n l=>exact ra
def E_ (h : au) (B : J) (z : Nat) (x : X) : T X := if Nat.blt 0 z = true then (EJ h B z x).bind B fun _ r => if Yk r = true then .ret (r.ro z) else .fail ["frz"] else .fail ["frz"]
def g0 (z:Nat) (off len:U) (z':Nat) (k:U) (D:List (List X)):Bool:=Nat.blt 0 z&&(Nat.beq z' z&&(off.beq (.lit 0)&&(len.beq (mkAdd k (.lit D.length))&&(k.nn&&(D.all (fun e=>Nat.beq e.length z)&&X.vO D)))))
def A0 (h:au) (B:J) (x:X):T X :=
 if x.nn=true then .ret x else match x with
  | .slv m z off len own=>match bh h m with
   | some [.tk z' k t D] => if g0 z off len z' k D = true then .ret (.tq z k t D false) else .fail ["frz"]
   | _=>E_ h B z (.slv m z off len own)
  | .sl m z off len own=>E_ h B z (.sl m z off len own)
  | _ => .ret .top
theorem T' {ρ:aa} {h:au} {B:J} (u:J.ok ρ B) {z:Nat} {x y:X} (hs:(E_ h B z x).aq ρ=some y):0<z/\∃fs,er (aO ρ h) z (x.I ρ)=some fs/\cq (fun _=>false) fs=true/\y.I ρ = .ro z fs false:=by
 unfold E_ at hs
 split at hs
 ·rename_i hz
  obtain⟨_,r,aM,A,E⟩:=T.cQ _ u hs
  split at E
  ·rename_i hn
   cases E
   exact⟨by simpa [Nat.blt_eq]using hz,_,Tq u A,aqQ hn,Rows.X9 ρ z r⟩
  ·cases E
 ·cases hs
theorem afc {ρ:aa} {h:au} {m:Nm} {z:Nat} {off len:U} {own:Bool} {z':Nat} {k:U} {t:Nat} {D:List (List X)} (Z:bh h m=some [.tk z' k t D]) (H:g0 z off len z' k D=true):rR (aO ρ h) ((X.slv m z off len own).I ρ) ((X.tq z k t D false).I ρ):=by
 simp only[g0,Bool.and_eq_true,Nat.blt_eq]at H
 obtain⟨g1,g2,g3,g4,g5,g6,g7⟩:=H
 have g2:=Nat.eq_of_beq_eq_true g2
 have g3:=U.beq_eq _ _ g3
 have g4:=U.beq_eq _ _ g4
 subst g2 g3 g4
 have k0:=U.kB ρ k g5
 have hT:(bC ρ z' k t).length=(k.I ρ).toNat:=by unfold bC;rw[List.length_map,List.length_range]
 have hE:(X.aX ρ D).length=D.length:=by simp[X.eg]
 have M:(bC ρ z' k t++X.aX ρ D).length=(k.I ρ).toNat+D.length:=by rw[List.length_append,hT,hE]
 have hn:((mkAdd k (.lit D.length)).I ρ).toNat=(k.I ρ).toNat+D.length:=by rw[fe];simp only[U.I];omega
 refine .inr ⟨m,z',0,(k.I ρ).toNat+D.length,own,bC ρ z' k t++X.aX ρ D,?_,g1,?_,Ch rb (X.Ci ρ D g7),rfl⟩
 ·simp only[X.I,hn,U.I,Int.toNat_zero,Nat.zero_mul]
 ·have hF:(bC ρ z' k t++X.aX ρ D).flatten.length=((k.I ρ).toNat+D.length)*z':=by
   rw[gS _ (fun j e h=>QB g6 j e h),M]
  have ae:ae (aO ρ h) m=some (bC ρ z' k t++X.aX ρ D).flatten:=by rw[cG,Z];rfl
  simp only[X.I,hn,U.I,Int.toNat_zero,Nat.zero_mul,er,ae,Option.bind_some]
  rw[if_pos ⟨trivial,by rw[hF,Nat.zero_add];exact Nat.le_refl _⟩,List.drop_zero,Ah _ _ (fun j e h=>QB g6 j e h) (by rw[M];exact Nat.le_refl _),List.take_of_length_le (by rw[M];exact Nat.le_refl _)]
theorem LF {ρ:aa} {h:au} {B:J} (u:J.ok ρ B) {x y:X} (hs:(A0 h B x).aq ρ=some y)   : rR (aO ρ h) (x.I ρ) (y.I ρ):=by
 unfold A0 at hs
 split at hs
 ·rename_i hn
  cases hs
  exact .inl (.inr ⟨rfl,X.kB ρ _ hn⟩)
 ·split at hs
  ·split at hs
   ·rename_i Z
    split at hs
    ·rename_i H
     cases hs
     exact afc Z H
    ·cases hs
   ·obtain⟨h0,fs,A,E,h3⟩:=T' u hs
    exact .inr ⟨_,_,_,_,_,_,rfl,h0,A,E,h3⟩
  ·obtain⟨h0,fs,A,E,h3⟩:=T' u hs
   exact .inr ⟨_,_,_,_,_,_,rfl,h0,A,E,h3⟩
  ·cases hs
   exact .inl (.inl rfl)
def xE (h:au) (B:J):List X->T (List X)
 | [] => .ret []
 | x::xs=>(A0 h B x).bind B fun B y=>(xE h B xs).bind B fun _ ys => .ret (y::ys)
theorem E9 {ρ:aa} {h:au}:∀{xs ys:List X} {B:J},J.ok ρ B->(xE h B xs).aq ρ=some ys->lM (aO ρ h) (X.af ρ xs) (X.af ρ ys)
 | [],ys,B,_,hs=>by cases hs;rfl
 | x::xs,ys,B,u,hs=>by
  simp only[xE]at hs
  obtain⟨fd,y,bp,A,hs⟩:=T.cQ _ u hs
  obtain⟨_,zs,_,E,hs⟩:=T.cQ _ bp hs
  cases hs
  exact⟨_,_,rfl,LF u A,E9 bp E⟩
def E' (h:au) (B:J) (x:X):T X:=match x with
 | .ptr m aG d=>match bh h m with
  | some cs => if b6 cs = true then .fail ["frz"] else (xE h B cs).bind B fun _ ys => .ret (.ip ys aG d)
  | none => .fail ["frz"]
 | .agg cs=>(xE h B cs).bind B fun _ ys => .ret (.agg ys)
 | x=>A0 h B x
theorem Ua {ρ:aa} {h:au} {B:J} (u:J.ok ρ B) {x y:X} (hs:(E' h B x).aq ρ=some y):DR (aO ρ h) (x.I ρ) (y.I ρ):=by
 unfold E' at hs
 split at hs
 ·split at hs
  ·rename_i cs Z
   split at hs
   ·cases hs
   ·rename_i hr
    obtain⟨_,ys,_,A,E⟩:=T.cQ _ u hs
    cases E
    refine .inr (.inl ⟨_,_,X.af ρ cs,X.af ρ ys,rfl,?_,E9 u A,rfl⟩)
    rw[cG,Z,Option.map_some,cP (by simpa using hr)]
  ·cases hs
 ·obtain⟨_,ys,_,A,E⟩:=T.cQ _ u hs
  cases E
  exact .inr (.inr ⟨_,_,rfl,E9 u A,rfl⟩)
 ·exact .inl (LF u hs)
def AZ (h:au) (B:J):List X->T (List X)
 | [] => .ret []
 | x::xs=>(E' h B x).bind B fun B y=>(AZ h B xs).bind B fun _ ys => .ret (y::ys)
theorem LC {ρ:aa} {h:au}:∀{xs ys:List X} {B:J},J.ok ρ B->(AZ h B xs).aq ρ=some ys->wI (aO ρ h) (X.af ρ xs) (X.af ρ ys)
 | [],ys,B,_,hs=>by cases hs;rfl
 | x::xs,ys,B,u,hs=>by
  simp only[AZ]at hs
  obtain⟨fd,y,bp,A,hs⟩:=T.cQ _ u hs
  obtain⟨_,zs,_,E,hs⟩:=T.cQ _ bp hs
  cases hs
  exact⟨_,_,rfl,Ua u A,LC bp E⟩
def LD (h:au) (B:J) (x:X):T X:=match x with
 | .fn f xs ys=>(AZ h B xs).bind B fun B us=>(AZ h B ys).bind B fun _ vs => .ret (.fn f us vs)
 | x=>E' h B x
theorem afd {ρ:aa} {h:au} {B:J} (u:J.ok ρ B) {x y:X} (hs:(LD h B x).aq ρ=some y):Jh (aO ρ h) (x.I ρ) (y.I ρ):=by
 unfold LD at hs
 split at hs
 ·obtain⟨fd,us,bp,A,hs⟩:=T.cQ _ u hs
  obtain⟨_,vs,_,E,hs⟩:=T.cQ _ bp hs
  cases hs
  exact .inr ⟨_,_,_,_,_,rfl,LC u A,LC bp E,rfl⟩
 ·exact .inl (Ua u hs)
def sr (h:au) (B:J):List X->T (List X)
 | [] => .ret []
 | x::xs=>(LD h B x).bind B fun B y=>(sr h B xs).bind B fun _ ys => .ret (y::ys)
theorem xF {ρ:aa} {h:au}:∀{xs ys:List X} {B:J},J.ok ρ B->(sr h B xs).aq ρ=some ys->wH (aO ρ h) (X.af ρ xs) (X.af ρ ys)
 | [],ys,B,_,hs=>by cases hs;rfl
 | x::xs,ys,B,u,hs=>by
  simp only[sr]at hs
  obtain⟨fd,y,bp,A,hs⟩:=T.cQ _ u hs
  obtain⟨_,zs,_,E,hs⟩:=T.cQ _ bp hs
  cases hs
  exact⟨_,_,rfl,afd u A,xF bp E⟩
mutual
def X.own (n:Nat):X->Bool
 | .top | .k _ | .sc _ | .rows _ _ _=>true
 | .agg cs | .tup cs=>X.vX n cs
 | .gd _ x=>x.own n
 | .ptr m _ _=>Nat.beq m.1 n
 | .sl m _ _ _ _=>Nat.beq m.1 n
 | .slv m _ _ _ _=>Nat.beq m.1 n
 | .ro _ [] _=>true
 | _=>false
def X.vX (n:Nat):List X->Bool
 | []=>true
 | x::xs=>x.own n&&X.vX n xs
end
mutual
theorem X.Hg (ρ:aa) (n:Nat):∀x:X,x.own n=true->vW n (x.I ρ)=true
 | .top,_=>rfl
 | .k _,_=>rfl
 | .sc _,_=>rfl
 | .rows _ _ _,_=>rfl
 | .agg cs,h=>X.Hf ρ n cs h
 | .tup cs,h=>X.Hf ρ n cs h
 | .gd c x,h=>by
  simp only[X.I]
  split
  ·exact X.Hg ρ n x h
  ·rfl
 | .ptr _ _ _,h=>h
 | .sl _ _ _ _ _,h=>h
 | .slv _ _ _ _ _,h=>h
 | .ip _ _ _,h=>by cases h
 | .ro _ [] _,_=>rfl
 | .ro _ (_::_) _,h=>by cases h
 | .rl _ _ _ _,h=>by cases h
 | .rn _ _ _ _ _,h=>by cases h
 | .tk _ _ _ _,h=>by cases h
 | .tq _ _ _ _ _,h=>by cases h
 | .cJ _ _ _,h=>by cases h
 | .fn _ _ _,h=>by cases h
 | .dv _ _ _ _,h=>by cases h
theorem X.Hf (ρ:aa) (n:Nat):∀l:List X,X.vX n l=true->jI n (X.af ρ l)=true
 | [],_=>rfl
 | x::xs,h=>by
  simp only[X.vX,Bool.and_eq_true]at h
  simp only[X.af,jI,X.Hg ρ n x h.1,X.Hf ρ n xs h.2,Bool.and_self]
end
theorem Xu {n:Nat}:∀{l:List AV},(∀x∈l,∃v,x = .sc v)->jI n l=true
 | [],_=>rfl
 | x::l,h=>by
  obtain⟨v,rfl⟩:=h x List.mem_cons_self
  simp only[jI,vW,Xu fun y hy=>h y (List.mem_cons_of_mem _ hy),Bool.and_self]
theorem ad1 (ρ:aa) (n:Nat) (cs:List X) (h:X.vX n cs=true):jI n (aA ρ cs)=true:=by
 unfold aA
 split
 ·rename_i z m l
  refine Xu fun x hx => ?_
  obtain⟨r,hr,hx⟩:=List.mem_flatten.1 hx
  obtain⟨j,_,rfl⟩:=List.mem_map.1 hr
  exact wa ρ l j x hx
 ·simp[X.vX,X.own]at h
 ·exact X.Hf ρ n cs h
def OZ (n:Nat) (d:aL):Bool:=d.all fun q=>Nat.beq q.1.1 n&&(match q.2 with | some cs=>X.vX n cs | none=>false)
theorem Xv (ρ:aa) {n:Nat} {d:aL} (h:OZ n d=true):OY n (bk ρ d):=fun q hq=>by
 obtain⟨p,hp,rfl⟩:=List.mem_map.1 hq
 have h:=List.all_eq_true.1 h p hp
 rw[Bool.and_eq_true]at h
 obtain⟨A,E⟩:=h
 refine⟨Nat.eq_of_beq_eq_true A,?_⟩
 cases ho:p.2 with
 | none=>rw[ho]at E;cases E
 | some cs =>
  rw[ho]at E
  exact⟨aA ρ cs,by rw[Option.map_some],ad1 ρ n cs E⟩
def Ft (c:cj) (call:bB) (n f:Nat) (args:List X) (B:J):T (X×aL):=match yr n f args [] c.c.kh with
 | some p => .ret p
 | none=>sA c.c call n f args [] B
def stepG (c:cj) (call:bB) (n f:Nat) (args:List X) (h:au) (B:J):T (X×aL) :=
 (sr h B args).bind B fun B ys => (Ft c call n f ys B).bind B fun _ p => if (p.1.own n && OZ n p.2) = true then .ret p else .fail ["own"]
def HN (h:au) (B:J) (x:X):T X:=match x with
 | .agg cs=>(xE h B cs).bind B fun _ ys => .ret (.agg ys)
 | x=>A0 h B x
theorem X7 {ρ:aa} {h:au} {B:J} (u:J.ok ρ B) {x y:X} (hs:(HN h B x).aq ρ=some y):DW (aO ρ h) (x.I ρ) (y.I ρ):=by
 unfold HN at hs
 split at hs
 ·obtain⟨_,ys,_,A,E⟩:=T.cQ _ u hs
  cases E
  exact .inr ⟨_,_,rfl,rfl,E9 u A⟩
 ·exact .inl (LF u hs)
def HO (h:au) (B:J):List X->T (List X)
 | [] => .ret []
 | x::xs=>(HN h B x).bind B fun B y=>(HO h B xs).bind B fun _ ys => .ret (y::ys)
theorem X8 {ρ:aa} {h:au}:∀{xs ys:List X} {B:J},J.ok ρ B->(HO h B xs).aq ρ=some ys->zP (aO ρ h) (X.af ρ xs) (X.af ρ ys)
 | [],ys,B,_,hs=>by cases hs;rfl
 | x::xs,ys,B,u,hs=>by
  simp only[HO]at hs
  obtain⟨fd,y,bp,A,hs⟩:=T.cQ _ u hs
  obtain⟨_,zs,_,E,hs⟩:=T.cQ _ bp hs
  cases hs
  exact⟨_,_,rfl,X7 u A,X8 bp E⟩
def Pv (h:au) (B:J) (x:X):T X:=match x with
 | .tup vs=>(HO h B vs).bind B fun _ ys => .ret (.tup ys)
 | x=>HN h B x
theorem aqD {ρ:aa} {h:au} {B:J} (u:J.ok ρ B) {x y:X} (hs:(Pv h B x).aq ρ=some y):Ro (aO ρ h) (x.I ρ) (y.I ρ):=by
 unfold Pv at hs
 split at hs
 ·obtain⟨_,ys,_,A,E⟩:=T.cQ _ u hs
  cases E
  exact .inr ⟨_,_,rfl,rfl,X8 u A⟩
 ·exact .inl (X7 u hs)
def Il (c:cj) (call:bB) (n f:Nat) (args:List X) (h:au) (B:J):T (X×aL) :=
 (sr h B args).bind B fun B ys => (Ft c call n f ys B).bind B fun B p => if (p.1.own n && OZ n p.2) = true then (Pv (ij p.2 []) B p.1).bind B fun _ r => .ret (r, []) else .fail ["own"]
def Ik (c:cj) (call:bB) (f:Nat) (args:List X) (B:J):T (X×aL):=match B1 f args c.c.ks with
 | some r => .ret (r,[])
 | none=>match B2 f args c.sm with
  | some (c,r)=>want B c fun _ => .ret (r,[])
  | none => if X.ly args = true then tj c.c call f args B else .fail ["args"]
def CV (c:cj) (call:bB) (f:Nat) (args:List X) (h:au) (B:J):T (X×aL) :=
 (sr h B args).bind B fun B ys=>(Ik c call f ys B).bind B fun _ p=>match p.2 with
  | [] => if p.1.plain = true then .ret (p.1, []) else .fail ["plain"]
  | _ => .fail ["plain"]
def KV:List X->Option BE
 | [.rl z n l _,.rl z' n' l' _]=>if(Nat.beq z 1&&(Nat.beq z' 1&&(n.beq n'&&(l.beq l'&&l.kd [.s]))))=true then some (mkNot (mkLt (.lit 4611686018427387904) n))else none
 | _=>none
def Qb (c:cj) (call:bB) (f:Nat) (args:List X) (h:au) (B:J):T (X×aL) :=
 (sr h B args).bind B fun B ys=>match KV ys with
  | some b=>want B b fun _ => .ret (.sc (.b (.lit true)),[])
  | none=>CV c call f args h B
def Zl (c:cj) (call:bB):bB:=fun n f args h B =>
 match yr n f args h c.c.kh with
 | some p => .ret p
 | none=>match Gh f args B c.c.cl with
 | some r => .ret (r,[])
 | none =>
 if qZ f c.c.k7=true then Qb c call f args h B
 else if qZ f c.hf=true then sA c.c call n f args h B
 else if qZ (f+10000) c.hf=true then CV c call f args h B
 else if qZ (f+20000) c.hf=true then stepG c call n f args h B
 else if qZ (f+30000) c.hf=true then Il c call n f args h B
 else if X.ly args=true then Ik c call f args B
 else if args.all (fun x=>x.nn||(match x with | .sl _ _ _ _ _=>true | .slv _ _ _ _ _=>true | _=>false))=true then CV c call f args h B else sA c.c call n f args h B
def eC (c:cj):Nat->bB
 | 0=>fun _ _ _ _ _=>(.fail [])
 | d+1=>Zl c (eC c d)
theorem Zi {P:Program} {ρ:aa} {c:cj} (H:bZ P ρ c.c) (hs:∀s∈c.sm,c4 P s) {call:bB} (aP:cS P ρ call) {n:Nat} {f:Nat} {args:List X} {h:Hp} {B:J} (u:J.ok ρ B) {r:X} {d:aL}
  (hq:(Ik c call f args B).aq ρ=some (r,d)):b_ P f=true/\CY P n f (X.af ρ args) h (r.I ρ) (bk ρ d):=by
 unfold Ik at hq
 split at hq
 ·rename_i r' M
  cases hq
  obtain⟨A,E⟩:=H.ks _ (V3 M)
  exact⟨A,E n _⟩
 ·split at hq
  ·rename_i dx r' M
   obtain⟨_,_,A,E⟩:=cX u hq
   cases E
   obtain⟨g1,g2⟩:=NH (n:=n) (h:=h) hs M
   exact⟨g1,g2 A⟩
  ·split at hq
   ·rename_i ha
    exact CB H aP ha u hq
   ·cases hq
theorem Qc {P:Program} {ρ:aa} {c:cj} (H:bZ P ρ c.c) (hs:∀s∈c.sm,c4 P s) {call:bB} (aP:cS P ρ call) {n:Nat} {f:Nat} {args:List X} {h:au} {B:J} (u:J.ok ρ B) {r:X} {d:aL}
  (hq:(CV c call f args h B).aq ρ=some (r,d)):b_ P f=true/\CY P n f (X.af ρ args) (aO ρ h) (r.I ρ) (bk ρ d):=by
 unfold CV at hq
 obtain⟨fd,ys,bp,A,hq⟩:=T.cQ _ u hq
 obtain⟨_,p,_,E,hq⟩:=T.cQ _ bp hq
 obtain⟨r',fE⟩:=p
 split at hq
 ·rename_i hd
  simp only at hd
  subst hd
  split at hq
  ·rename_i hp
   cases hq
   obtain⟨g1,g2⟩:=Zi (n:=n) (h:=[]) H hs aP bp E
   exact⟨g1,Jc (xF u A) (X.O6 ρ _ hp) g2⟩
  ·cases hq
 ·cases hq
theorem Oj {n:Nat}:∀{l:List Nat},qZ n l=true->n∈l
 | [],h=>by cases h
 | k::l,h=>by
  simp only[qZ,Bool.or_eq_true]at h
  rcases h with h | h
  ·rw[Nat.eq_of_beq_eq_true h];exact List.mem_cons_self
  ·exact List.mem_cons_of_mem _ (Oj h)
theorem aqL {ρ:aa} {n:U} {l:RL} (h:l.kd [.s]=true):∃ss:List ByteArray,aV ρ n l=fx ss/\ss.length=(n.I ρ).toNat:=by
 refine⟨(List.range (n.I ρ).toNat).map fun(j:Nat)=>cellS (l.row ρ j)[0]?,?_,by simp⟩
 unfold aV fx
 rw[List.map_map]
 refine List.map_congr_left fun j _ => ?_
 obtain⟨v,r,e,hr⟩:=RL.qR (ρ:=ρ) (j:=(j:Int)) h
 have hr:r=[]:=hr
 subst hr
 simp only[Function.comp,e,List.getElem?_cons_zero,cellS]
theorem aeg {P:Program} {ρ:aa} {f n:Nat} {h:Hp} {ys:List X} {b:BE} (hf:o0 P f) (hq:KV ys=some b) (hb:b.I ρ=true):CY P n f (X.af ρ ys) h (.sc (.bool true)) []:=by
 unfold KV at hq
 split at hq
 ·split at hq
  ·rename_i H
   cases hq
   simp only[Bool.and_eq_true]at H
   obtain⟨A,E,h3,h4,h5⟩:=H
   have A:=Nat.eq_of_beq_eq_true A
   have E:=Nat.eq_of_beq_eq_true E
   have h3:=U.beq_eq _ _ h3
   have h4:=RL.beq_eq h4
   subst A E h3 h4
   obtain⟨ss,e1,e2⟩:=aqL (ρ:=ρ) (n := ‹U›) h5
   rw[et,gY]at hb
   simp only[U.I,Bool.not_eq_true']at hb
   have hb:=of_decide_eq_false hb
   simp only[X.af,X.I,e1]
   exact hf.2 ss _ _ n h (by omega)
  ·cases hq
 ·cases hq
theorem arM {P:Program} {ρ:aa} {c:cj} (H:bZ P ρ c.c) (hs:∀s∈c.sm,c4 P s) {call:bB} (aP:cS P ρ call) {n:Nat} {f:Nat} (hf:o0 P f) {args:List X} {h:au} {B:J} (u:J.ok ρ B) {r:X} {d:aL}
  (hq:(Qb c call f args h B).aq ρ=some (r,d)):b_ P f=true/\CY P n f (X.af ρ args) (aO ρ h) (r.I ρ) (bk ρ d):=by
 unfold Qb at hq
 obtain⟨fd,ys,bp,A,hq⟩:=T.cQ _ u hq
 split at hq
 ·rename_i b hb
  obtain⟨_,_,E,h3⟩:=cX bp hq
  cases h3
  exact⟨hf.1,Jc (xF u A) rfl (aeg (n:=n) (h:=[]) hf hb E)⟩
 ·exact Qc H hs aP bp hq
theorem UT {P:Program} {ρ:aa} {c:cj} (H:bZ P ρ c.c) {call:bB} (aP:cS P ρ call) {n:Nat} {f:Nat} {args:List X} {B:J} (u:J.ok ρ B) {p:X×aL}
  (hq:(Ft c call n f args B).aq ρ=some p):b_ P f=true/\CY P n f (X.af ρ args) (aO ρ []) (p.1.I ρ) (bk ρ p.2):=by
 unfold Ft at hq
 split at hq
 ·rename_i M
  cases hq
  exact Gi H.kh M
 ·exact xT H aP u hq
theorem arN {P:Program} {ρ:aa} {c:cj} (H:bZ P ρ c.c) {call:bB} (aP:cS P ρ call) {n:Nat} {f:Nat} {args:List X} {h:au} {B:J} (u:J.ok ρ B) {r:X} {d:aL}
  (hq:(stepG c call n f args h B).aq ρ=some (r,d)):b_ P f=true/\CY P n f (X.af ρ args) (aO ρ h) (r.I ρ) (bk ρ d):=by
 unfold stepG at hq
 obtain⟨fd,ys,bp,A,hq⟩:=T.cQ _ u hq
 obtain⟨_,p,_,E,hq⟩:=T.cQ _ bp hq
 split at hq
 ·rename_i hp
  rw[Bool.and_eq_true]at hp
  cases hq
  obtain⟨g1,g2⟩:=UT H aP bp E
  exact⟨g1,Rz (xF u A) (X.Hg ρ n _ hp.1) (Xv ρ hp.2) g2⟩
 ·cases hq
theorem Zk {P:Program} {ρ:aa} {c:cj} (H:bZ P ρ c.c) {call:bB} (aP:cS P ρ call) {n:Nat} {f:Nat} {args:List X} {h:au} {B:J} (u:J.ok ρ B) {r:X} {d:aL}
  (hq:(Il c call n f args h B).aq ρ=some (r,d)):b_ P f=true/\CY P n f (X.af ρ args) (aO ρ h) (r.I ρ) (bk ρ d):=by
 unfold Il at hq
 obtain⟨fd,ys,bp,A,hq⟩:=T.cQ _ u hq
 obtain⟨lw,p,dO,E,hq⟩:=T.cQ _ bp hq
 split at hq
 ·rename_i hp
  rw[Bool.and_eq_true]at hp
  obtain⟨_,y,_,h3,hq⟩:=T.cQ _ dO hq
  cases hq
  obtain⟨g1,g2⟩:=UT H aP bp E
  have hd:=Xv ρ hp.2
  refine⟨g1,abi (fun q hq=>(hd q hq).1) ?_ (Rz (xF u A) (X.Hg ρ n _ hp.1) hd g2)⟩
  have:=aqD dO h3
  rw[o7]at this
  exact this
 ·cases hq
theorem eU {P:Program} {ρ:aa} {c:cj} (H:bZ P ρ c.c) (hs:∀s∈c.sm,c4 P s):∀d,cS P ρ (eC c d)
 | 0=>fun n f args h B r d _ hq=>by cases hq
 | k+1=>fun n f args h B r d u hq=>by
  have aP:=eU H hs k
  simp only[eC]at hq
  unfold Zl at hq
  split at hq
  ·rename_i M
   cases hq
   exact Gi H.kh M
  split at hq
  ·rename_i M
   cases hq
   exact V2 u H.cl M
  split at hq
  ·rename_i hw
   exact arM H hs aP (H.k7 _ (Oj hw)) u hq
  split at hq
  ·exact xT H aP u hq
  ·split at hq
   ·exact Qc H hs aP u hq
   split at hq
   ·exact arN H aP u hq
   split at hq
   ·exact Zk H aP u hq
   split at hq
   ·exact Zi H hs aP u hq
   ·split at hq
    ·exact Qc H hs aP u hq
    ·exact xT H aP u hq
def aN (c : cj) (f : Nat) (args : List X) (B : J) : T X := if X.ly args = true then (tj c.c (eC c 12) f args B).map (·.1) else .fail ["args"]
def R2 (c:cj) (f:Nat) (args:List X):T X:=aN c f args []
theorem ef {P:Program} {ρ:aa} {c:cj} (H:bZ P ρ c.c) (hs:∀s∈c.sm,c4 P s) {f:Nat} {args:List X} {B:J} {r:X} (u:J.ok ρ B) (h:(aN c f args B).aq ρ=some r):b_ P f=true/\∀n h,CY P n f (X.af ρ args) h (r.I ρ) []:=by
 unfold aN at h
 split at h
 ·rename_i ha
  obtain⟨p,A,rfl⟩:=T.je _ h
  obtain⟨r,d⟩:=p
  have hd:d=[]:=by
   unfold tj at A
   split at A
   ·obtain⟨_,z,_,_,h4⟩:=T.cQ _ u A
    split at h4
    ·cases h4;rfl
    ·cases h4
   ·cases A
  subst hd
  exact⟨(CB (n:=0) (h:=[]) H (eU H hs 12) ha u A).1,fun n hp=>(CB H (eU H hs 12) ha u A).2⟩
 ·cases h
theorem R3 {P:Program} {ρ:aa} {c:cj} (H:bZ P ρ c.c) (hs:∀s∈c.sm,c4 P s) {f:Nat} {args:List X} {r:X} (h:(R2 c f args).aq ρ=some r):b_ P f=true/\∀n h,CY P n f (X.af ρ args) h (r.I ρ) [] :=
 ef H hs (J.bq ρ) h
theorem arG {P:Program} {c:cj} (H:∀ρ,bZ P ρ c.c) (hs:∀s∈c.sm,c4 P s) {f:Nat} {pat:List X} {r:X} (h:R2 c f pat = .ret r):c4 P ⟨f,pat,r,.lit true⟩ :=
 ⟨(R3 (ρ:=⟨fun _=>0,fun _=>false,fun _=>⟨#[]⟩,fun _=>0,fun _ _ _=>0,fun _ _ _=>false,fun _ _ _=>⟨#[]⟩,kz⟩) (H _) hs (by rw[h];rfl)).1,fun ρ n hp _=>(R3 (H ρ) hs (by rw[h];rfl)).2 n hp⟩
def fC (c:cj) (f:Nat) (args:List X) (cp:au) (B:J):T (X×aL):=sA c.c (eC c 12) 1 f args cp B
theorem uq {P:Program} {ρ:aa} {c:cj} (H:bZ P ρ c.c) (hs:∀s∈c.sm,c4 P s) {f:Nat} {args:List X} {cp:au} {B:J} {r:X} {d:aL} (u:J.ok ρ B) (h:(fC c f args cp B).aq ρ=some (r,d)):c' P ρ ⟨f,args,cp,r,d⟩ :=
 xT H (eU H hs 12) u h
def ur (c:cj) (f:Nat) (args:List X) (cp:au) (B:J):T (X×aL):=Il c (eC c 12) 1 f args cp B
theorem acP {P:Program} {ρ:aa} {c:cj} (H:bZ P ρ c.c) (hs:∀s∈c.sm,c4 P s) {f:Nat} {args:List X} {cp:au} {B:J} {r:X} {d:aL} (u:J.ok ρ B) (h:(ur c f args cp B).aq ρ=some (r,d)):c' P ρ ⟨f,args,cp,r,d⟩ :=
 Zk H (eU H hs 12) u h
def ln (cp:au):aL:=cp.map fun q=>(q.1,some q.2)
def yN (cp:au):Bool:=cp.all fun q=>match bh (ij (ln cp) cp) q.1,bh cp q.1 with
 | some x,some y=>X.fh x y
 | _,_=>false
theorem acQ {P:Program} {ρ:aa} {c:cj} (H:bZ P ρ c.c) (hs:∀s∈c.sm,c4 P s) {f:Nat} {args:List X} {cp:au} {B:J} {r:X} (u:J.ok ρ B) (h:(ur c f args cp B).aq ρ=some (r,[])) (hi:yN cp=true):c' P ρ ⟨f,args,cp,r,ln cp⟩:=by
 obtain⟨A,E⟩:=acP H hs u h
 have hm:∀m,m∈(bk ρ (ln cp)).map (·.1)->∃q∈cp,q.1=m:=fun m hm=>by
  simp only[bk,ln,List.map_map,List.mem_map]at hm
  obtain⟨q,hq,rfl⟩:=hm
  exact⟨q,hq,rfl⟩
 refine⟨A,abh E (fun m => ?_) (fun m hq => ?_)⟩
 ·by_cases hq:m∈(bk ρ (ln cp)).map (·.1)
  ·obtain⟨q,R,rfl⟩:=hm m hq
   have:=List.all_eq_true.1 hi q R
   split at this
   ·rename_i x y e1 e2
    rw[<-o7,cG,cG,e1,e2,X.gO _ _ this]
   ·cases this
  ·exact gw _ _ m hq
 ·obtain⟨q,R,rfl⟩:=hm m hq
  have:=List.all_eq_true.1 hi q R
  split at this
  ·rename_i x y e1 e2
   rw[cG,e2];rfl
  ·cases this
end Go.Proofs.Xw
namespace Go.Proofs.Xw
open Go Go.Proofs.Aw
def AT (P:Program) (p:TypeId->Option (List Kd)):Nat->List Field->Option (List Kd)
 | _,[]=>some []
 | off,f::fs=>if f.offset=off then
   (p f.type).bind fun l=>if l.length=P.cellsOf f.type then(AT P p (off+P.cellsOf f.type) fs).map fun r=>l++r else none
  else none
def tv:Nat->List Kd->List Kd
 | 0,_=>[]
 | n+1,l=>tv n l++l
theorem X3 (l:List Kd):∀n,(tv n l).length=n*l.length
 | 0=>by simp[tv]
 | n+1=>by simp only[tv,List.length_append,X3 l n,Nat.succ_mul]
def k8 (P:Program):Nat->TypeId->Option (List Kd)
 | 0,_=>none
 | d+1,t=>(match P.underlying t with
  | some .bool=>some [.b]
  | some (.int k)=>some [.i k]
  | some .string=>some [.s]
  | some (.struct fs)=>AT P (k8 P d) 0 fs.toList
  | some (.array n e)=>(k8 P d e).bind fun l=>if l.length=P.cellsOf e then some (tv n l)else none
  | _=>none:Option (List Kd)).bind fun l=>if l.length=P.cellsOf t then some l else none
def BS:Kd->Value->Prop
 | .i k,v=>∃n,v = .int k n/\(Lit.int k n).wf=true
 | .b,v=>∃b,v = .bool b
 | .s,v=>∃s,v = .string s/\s.size<=maxLen
def KS:List Kd->List Value->Prop
 | [],vs=>vs=[]
 | k::ks,vs=>∃v r,vs=v::r/\BS k v/\KS ks r
theorem KS.append:∀{l m:List Kd} {c d:List Value},KS l c->KS m d->KS (l++m) (c++d)
 | [],m,c,d,h,h'=>by simp only[KS]at h;subst h;exact h'
 | k::l,m,c,d,⟨v,r,e,R,hr⟩,h'=>by
  subst e
  exact⟨v,r++d,rfl,R,KS.append hr h'⟩
theorem KS.length:∀{l:List Kd} {c:List Value},KS l c->c.length=l.length
 | [],c,h=>by simp only[KS]at h;subst h;rfl
 | k::l,c,⟨v,r,e,_,hr⟩=>by subst e;simp[KS.length hr]
theorem KS.get:∀{l:List Kd} {c:List Value},KS l c->∀{i:Nat} {k:Kd},l[i]? = some k->∃v,c[i]? = some v/\BS k v
 | [],_,_,i,k,h=>by simp at h
 | k'::l,c,⟨v,r,e,R,hr⟩,i,k,h=>by
  subst e
  cases i with
  | zero=>simp at h;subst h;exact⟨v,rfl,R⟩
  | succ i=>simpa using KS.get hr (by simpa using h)
section
variable {aR:Type} {enc:TypeId×Value->aR} {P:Program}
theorem Ta {ao:Type} (l:List ao) (off a b:Nat):(l.drop off).take (a+b)=(l.drop off).take a++(l.drop (off+a)).take b:=by
 rw[List.take_add,List.drop_drop]
def Jg (_enc:TypeId×Value->aR) (_P:Program) (r:World->Nat->(Nat->Bool)->Bool->TypeId->List Value->Option (DataW aR×List MemPlace)) (t:TypeId) (ks:List Kd):Prop :=
 ∀w base sp held cs x,r w base sp held t cs=some x->x.2=[]/\KS ks cs/\∀w' base' i2 iQ,r w' base' i2 iQ t cs=some x
theorem T6 {r:World->Nat->(Nat->Bool)->Bool->TypeId->List Value->Option (DataW aR×List MemPlace)} {p:TypeId->Option (List Kd)} (hp:∀t ks,p t=some ks->Jg enc P r t ks) {w:World} {base:Nat} {sp:Nat->Bool} {held:Bool} {cs:List Value} :
  ∀(fs:List Field) (off:Nat) (ks:List Kd) (xs:List (DataW aR×List MemPlace)),AT P p off fs=some ks->fs.mapM (fun f=>r w base sp held f.type ((cs.drop f.offset).take (P.cellsOf f.type)))=some xs ->
  xs.flatMap (·.2)=[]/\KS ks ((cs.drop off).take ks.length)/\∀w' base' i2 iQ,fs.mapM (fun f=>r w' base' i2 iQ f.type ((cs.drop f.offset).take (P.cellsOf f.type)))=some xs
 | [],off,ks,xs,h,hm=>by
  simp only[AT,Option.some.injEq]at h
  subst h
  simp at hm
  subst hm
  exact⟨rfl,by simp[KS],fun _ _ _ _=>rfl⟩
 | f::fs,off,ks,xs,h,hm=>by
  simp only[AT]at h
  split at h
  ·rename_i qF
   subst qF
   obtain⟨l,M,h⟩:=Option.bind_eq_some_iff.1 h
   split at h
   ·rename_i hlen
    obtain⟨li,u,rfl⟩:=Option.map_eq_some_iff.1 h
    simp only[List.mapM_cons,bind,Option.bind_eq_some_iff,pure,Option.some.injEq]at hm
    obtain⟨y,hy,ys,jp,rfl⟩:=hm
    obtain⟨bm,bl,gL⟩:=hp f.type l M w base sp held _ y hy
    obtain⟨b1,b2,dt⟩:=T6 hp fs _ li ys u jp
    refine⟨by simp[List.flatMap_cons,bm,b1],?_,fun w' base' i2 iQ => ?_⟩
    ·rw[List.length_append,Ta,hlen]
     exact KS.append bl b2
    ·simp only[List.mapM_cons,bind,gL w' base' i2 iQ,dt w' base' i2 iQ,Option.bind_some,pure]
   ·cases h
  ·cases h
theorem Wd {ao β:Type} (f:ao->Option β) (l:List ao) (a:ao) (r:List β):(l++[a]).mapM f=some r↔∃xs y,l.mapM f=some xs/\f a=some y/\r=xs++[y]:=by
 rw[List.mapM_append]
 simp only[bind,Option.bind_eq_some_iff,List.mapM_cons,List.mapM_nil,pure,Option.some.injEq]
 constructor
 ·rintro⟨xs,hx,ys,⟨y,hy,zs,rfl,rfl⟩,rfl⟩;exact⟨xs,y,hx,hy,rfl⟩
 ·rintro⟨xs,y,hx,hy,rfl⟩;exact⟨xs,hx,_,⟨y,hy,_,rfl,rfl⟩,rfl⟩
theorem T4 {r:World->Nat->(Nat->Bool)->Bool->TypeId->List Value->Option (DataW aR×List MemPlace)} {e:TypeId} {l:List Kd} (hp:Jg enc P r e l) (M:l.length=P.cellsOf e) {w:World} {base:Nat} {sp:Nat->Bool} {held:Bool} {cs:List Value} :
  ∀(n:Nat) (xs:List (DataW aR×List MemPlace)),(List.range n).mapM (fun i=>r w base sp held e ((cs.drop (i*P.cellsOf e)).take (P.cellsOf e)))=some xs ->
  xs.flatMap (·.2)=[]/\KS (tv n l) (cs.take (n*l.length))/\∀w' base' i2 iQ,(List.range n).mapM (fun i=>r w' base' i2 iQ e ((cs.drop (i*P.cellsOf e)).take (P.cellsOf e)))=some xs
 | 0,xs,hm=>by
  simp at hm
  subst hm
  exact⟨rfl,by simp[KS,tv],fun _ _ _ _=>rfl⟩
 | n+1,xs,hm=>by
  rw[List.range_succ,Wd]at hm
  obtain⟨ys,y,jp,hy,rfl⟩:=hm
  obtain⟨b1,b2,dt⟩:=T4 hp M n ys jp
  obtain⟨bm,bl,gL⟩:=hp w base sp held _ y hy
  refine⟨by simp[List.flatMap_append,bm,b1],?_,fun w' base' i2 iQ => ?_⟩
  ·simp only[tv,Nat.succ_mul]
   rw[List.take_add,M]
   rw[M]at b2
   exact KS.append b2 bl
  ·rw[List.range_succ,Wd]
   exact⟨ys,y,dt w' base' i2 iQ,gL w' base' i2 iQ,rfl⟩
theorem AY:∀(d n:Nat) (t:TypeId) (ks:List Kd),k8 P d t=some ks->Jg enc P (fun w base sp held=>DataW.trod enc P w base sp held n) t ks
 | 0,_,_,_,h=>by simp[k8]at h
 | d+1,0,t,ks,h=>by intro w base sp held cs x hx;simp[DataW.trod]at hx
 | d+1,n+1,t,ks,h=>by
  intro w base sp held cs x hx
  simp only[k8]at h
  obtain⟨l,M,h⟩:=Option.bind_eq_some_iff.1 h
  have Mh:l=ks/\ks.length=P.cellsOf t:=by
   split at h
   ·rename_i G;cases h;exact⟨rfl,G⟩
   ·cases h
  obtain⟨rfl,hlen⟩:=Mh
  clear h
  have goal:x.2=[]/\KS l cs/\∀w' base' i2 iQ,DataW.trod enc P w' base' i2 iQ (n+1) t cs=some x:=by
   simp only[DataW.trod_step]at hx ⊢
   unfold DataW.trodStep at hx ⊢
   cases hu:P.underlying t with
   | none=>rw[hu]at M;cases M
   | some ds =>
    rw[hu]at M hx
    cases ds<;>simp only[reduceCtorEq]at M
    case bool =>
     cases M
     match cs,hx with
     | [.bool b],hx=>cases hx;exact⟨rfl,⟨_,_,rfl,⟨b,rfl⟩,rfl⟩,fun _ _ _ _=>rfl⟩
    case int k =>
     cases M
     match cs,hx with
     | [.int k' i],hx =>
      simp only at hx
      split at hx
      ·rename_i H
       cases hx
       obtain⟨rfl,hw⟩:=H
       exact⟨rfl,⟨_,_,rfl,⟨i,rfl,hw⟩,rfl⟩,fun _ _ _ _=>by simp[hw]⟩
      ·cases hx
    case string =>
     cases M
     match cs,hx with
     | [.string s],hx =>
      simp only at hx
      split at hx
      ·rename_i H
       cases hx
       exact⟨rfl,⟨_,_,rfl,⟨s,rfl,H⟩,rfl⟩,fun _ _ _ _=>by simp[H]⟩
      ·cases hx
    case struct fs =>
     simp only at hx
     split at hx
     ·rename_i H
      obtain⟨xs,ve,rfl⟩:=Option.map_eq_some_iff.1 hx
      obtain⟨bm,bl,gL⟩:=T6 (enc:=enc) (P:=P) (r:=fun w base sp held=>DataW.trod enc P w base sp held n) (p:=k8 P d) (fun t ks h=>AY d n t ks h) fs.toList 0 l xs M ve
      refine⟨bm,?_,fun w' base' i2 iQ => ?_⟩
      ·rw[List.drop_zero,List.take_of_length_le (by omega)]at bl;exact bl
      ·simp only[H,if_true];rw[gL w' base' i2 iQ];rfl
     ·cases hx
    case array m e =>
     obtain⟨l',bX,M⟩:=Option.bind_eq_some_iff.1 M
     split at M
     ·rename_i hz
      cases M
      simp only at hx
      split at hx
      ·rename_i H
       obtain⟨xs,ve,rfl⟩:=Option.map_eq_some_iff.1 hx
       obtain⟨bm,bl,gL⟩:=T4 (enc:=enc) (P:=P) (r:=fun w base sp held=>DataW.trod enc P w base sp held n) (AY d n e l' bX) hz m xs ve
       refine⟨bm,?_,fun w' base' i2 iQ => ?_⟩
       ·rw[X3]at hlen
        rw[List.take_of_length_le (by omega)]at bl;exact bl
       ·simp only[H,if_true];rw[gL w' base' i2 iQ];rfl
      ·cases hx
     ·cases M
  exact goal
end
end Go.Proofs.Xw
namespace Go.Proofs.Xw
open Go Go.Proofs.Aw Go.ChangeShapes Go.WideShapes
inductive Sh where
 | flat (ks:List Kd) (agg:Bool)
 | sl (ks:List Kd)
def Ic (P:Program) (t:TypeId):Option Sh :=
 match P.underlying t with
 | some .bool=>some (.flat [.b] false)
 | some (.int k)=>some (.flat [.i k] false)
 | some .string=>some (.flat [.s] false)
 | some (.struct _)=>(k8 P 8 t).map fun ks => .flat ks true
 | some (.array _ _)=>(k8 P 8 t).map fun ks => .flat ks true
 | some (.slice e)=>(k8 P 8 e).bind fun ks=>if 0<ks.length/\ks.length=P.cellsOf e then some (.sl ks)else none
 | _=>none
def canon:Nat->List Kd->List X
 | _,[]=>[]
 | p,.i k::ks => .sc (.i k (.var p))::canon (p+1) ks
 | p,.b::ks => .sc (.b (.var p))::canon (p+1) ks
 | p,.s::ks => .sc (.s (.var p))::canon (p+1) ks
def plain:List Sh->List Value->List Value
 | .flat _ _::r,v::vs=>v.cells.toList++plain r vs
 | .sl _::r,_::vs=>plain r vs
 | _,_=>[]
def yc:Option Value->Int
 | some (.int _ n)=>n
 | _=>0
def rX:Option Value->Bool
 | some (.bool b)=>b
 | _=>false
def rF:Option Value->ByteArray
 | some (.string s)=>s
 | _=>⟨#[]⟩
def eI (ak:World) (vs:List Value) (zs:List Nat) (l k r:Nat):Option Value :=
 match vs[l]?,zs[l]? with
 | some (.slice (some a) _ _),some z=>ak.cell? ((a.add (r*z)).add k)
 | _,_=>none
def nb:Option Value->Nat
 | some (.slice _ n _)=>n
 | _=>0
def Cc (ak:World) (cells vs:List Value) (zs:List Nat):aa where
 i p:=yc cells[p]?
 b p:=rX cells[p]?
 s p:=rF cells[p]?
 len j:=nb vs[j]?
 ci l k r:=yc (eI ak vs zs l k r)
 cb l k r:=rX (eI ak vs zs l k r)
 cs l k r:=rF (eI ak vs zs l k r)
 ct:=kz
def Fits (ak:World):Sh->Value->Prop
 | .flat ks true,v=>∃cs,v = .agg cs/\KS ks cs.toList
 | .flat ks false,v=>∃k,ks=[k]/\BS k v
 | .sl ks,v=>0<ks.length/\∃ab len cap,v = .slice ab len cap/\len<=cap/\(0<len->∃a,ab=some a/\a.block<ak.heap.size/\∀r,r<len->∃cs,KS ks cs/\∀k,k<ks.length->ak.cell? ((a.add (r*ks.length)).add k)=cs[k]?)
theorem Kh {C:Ctx} {ak:World} {cells vs:List Value} {zs:List Nat}:∀(ks:List Kd) (p:Nat) (cs:List Value),KS ks cs->(∀i,i<ks.length->cells[p+i]? = cs[i]?)->aC C (X.af (Cc ak cells vs zs) (canon p ks)) cs
 | [],p,cs,h,_=>by simp only[KS]at h;subst h;simp only[canon,X.af,aC]
 | k::ks,p,cs,⟨v,r,e,R,hr⟩,H=>by
  subst e
  have h0:cells[p]? = some v:=by have:=H 0 (by simp);simpa using this
  have ih:=Kh (C:=C) (ak:=ak) (vs:=vs) (zs:=zs) ks (p+1) r hr (fun i hi=>by
   have:=H (i+1) (by simp;omega)
   rw[show p+1+i=p+(i+1)from by omega,this];rfl)
  cases k with
  | i kk =>
   obtain⟨n,rfl,_⟩:=R
   simp only[canon,X.af,X.I,Sc.I,U.I,aC]
   exact⟨_,_,rfl,by simp only[aj,Cc,h0,yc],ih⟩
  | b =>
   obtain⟨n,rfl⟩:=R
   simp only[canon,X.af,X.I,Sc.I,BE.I,aC]
   exact⟨_,_,rfl,by simp only[aj,Cc,h0,rX],ih⟩
  | s =>
   obtain⟨n,rfl,_⟩:=R
   simp only[canon,X.af,X.I,Sc.I,TE.I,aC]
   exact⟨_,_,rfl,by simp only[aj,Cc,h0,rF],ih⟩
theorem Ac (ρ:aa) (l:Nat):∀(ks:List Kd) (k j:Nat),(bH ρ l k ks j).length=ks.length
 | [],_,_=>rfl
 | .i _::ks,k,j=>by simp only[bH,List.length_cons,Ac ρ l ks (k+1) j]
 | .b::ks,k,j=>by simp only[bH,List.length_cons,Ac ρ l ks (k+1) j]
 | .s::ks,k,j=>by simp only[bH,List.length_cons,Ac ρ l ks (k+1) j]
end Go.Proofs.Xw
namespace Go.Proofs.Xw
open Go Go.Proofs.Aw Go.ChangeShapes Go.WideShapes
section
variable {aR:Type} {enc:TypeId×Value->aR} {P:Program}
theorem B4 {ao β:Type} {f:ao->Option β}:∀{l:List ao} {r:List β},l.mapM f=some r->∀x∈l,∃y,f x=some y
 | [],_,_,x,hx=>by cases hx
 | a::l,r,h,x,hx=>by
  simp only[List.mapM_cons,bind,Option.bind_eq_some_iff,pure]at h
  obtain⟨y,hy,ys,jp,_⟩:=h
  rcases List.mem_cons.1 hx with rfl | hx
  ·exact⟨y,hy⟩
  ·exact B4 jp x hx
theorem aro {ak W':World} (h:∀b,b<ak.heap.size->W'.heap[b]? = ak.heap[b]?) {p:MemPlace} (hp:p.block<ak.heap.size):ak.sameAt W' p:=by
 cases p with
 | cell b off=>simp only[World.sameAt,World.cell?,h b hp]
 | map b=>exact h b hp
theorem Sk {ak W':World} (h:∀b,b<ak.heap.size->W'.heap[b]? = ak.heap[b]?) {base:Nat} {a:Addr} {n:Nat} {cs:List Value} (hn:0<n) (H:ak.cells? base a n=some cs):W'.cells? base a n=some cs:=by
 have hb:=World.cells?_block H hn
 refine World.cells?_carry H fun p hp => ?_
 obtain⟨i,_,rfl⟩:=MemPlace.mem_row.1 hp
 exact aro h hb
theorem arD {n:Nat} {t e:TypeId} {ks:List Kd} (hu:P.underlying t=some (.slice e)) (u:k8 P 8 e=some ks) (kf:0<ks.length) (hz:ks.length=P.cellsOf e) {ak:World} {ab:Option Addr} {len cap:Nat} {x:DataW aR×List MemPlace}
  (h:DataW.trod enc P ak 0 (fun _=>true) true (n+1) t [.slice ab len cap]=some x) :
  Fits ak (.sl ks) (.slice ab len cap)/\∀(W':World) (sp:Nat->Bool),(∀b,b<ak.heap.size->W'.heap[b]? = ak.heap[b]?)->(∀q∈x.2,sp q.block=true)->DataW.trod enc P W' 0 sp true (n+1) t [.slice ab len cap]=some x:=by
 simp only[DataW.trod_step]at h ⊢
 unfold DataW.trodStep at h ⊢
 rw[hu]at h
 simp only[hu]at h ⊢
 cases ab with
 | none =>
  have U7:len=0/\cap=0:=by
   cases len<;>cases cap<;>simp_all
  obtain⟨rfl,rfl⟩:=U7
  refine⟨⟨kf,none,0,0,rfl,Nat.le_refl _,fun W=>absurd W (by omega)⟩,fun W' sp _ _ => ?_⟩
  simpa using h
 | some a =>
  simp only at h ⊢
  split at h
  ·rename_i H
   obtain⟨elems,G,h⟩:=Option.bind_eq_some_iff.1 h
   obtain⟨rest,hr,rfl⟩:=Option.map_eq_some_iff.1 h
   simp only[if_true]at hr
   have L9:∀i y,(ak.cells? 0 (a.add (i*P.cellsOf e)) (P.cellsOf e)).bind (DataW.trod enc P ak 0 (fun _=>true) true n e)=some y ->
     ∃cs,ak.cells? 0 (a.add (i*P.cellsOf e)) (P.cellsOf e)=some cs/\KS ks cs/\∀w' dn s' h',DataW.trod enc P w' dn s' h' n e cs=some y:=fun i y hy=>by
    obtain⟨cs,A,E⟩:=Option.bind_eq_some_iff.1 hy
    obtain⟨_,g2,g3⟩:=AY (enc:=enc) 8 n e ks u ak 0 (fun _=>true) true cs y E
    exact⟨cs,A,g2,g3⟩
   refine⟨⟨kf,some a,len,cap,rfl,H.2.1,fun M=>⟨a,rfl,?_,fun r mf => ?_⟩⟩,fun W' sp Fh x3 => ?_⟩
   ·obtain⟨y,hy⟩:=B4 G 0 (by simpa using M)
    obtain⟨cs,A,_⟩:=L9 0 y hy
    have:=World.cells?_block A (by omega)
    simpa [block_add]using this
   ·obtain⟨y,hy⟩:=B4 G r (by simpa using mf)
    obtain⟨cs,A,E,_⟩:=L9 r y hy
    obtain⟨_,_,h4⟩:=World.cells?_some A
    exact⟨cs,E,fun k aM=>by rw[hz];exact h4 k (by omega)⟩
   ·rw[if_pos H]
    have carry:∀i y,(ak.cells? 0 (a.add (i*P.cellsOf e)) (P.cellsOf e)).bind (DataW.trod enc P ak 0 (fun _=>true) true n e)=some y ->
      (W'.cells? 0 (a.add (i*P.cellsOf e)) (P.cellsOf e)).bind (DataW.trod enc P W' 0 sp true n e)=some y:=fun i y hy=>by
     obtain⟨cs,A,_,h3⟩:=L9 i y hy
     rw[Sk Fh (by omega) A]
     exact h3 _ _ _ _
    have e1:=mapM_carry (g:=fun i=>(W'.cells? 0 (a.add (i*P.cellsOf e)) (P.cellsOf e)).bind (DataW.trod enc P W' 0 sp true n e)) G fun i y _ _ hy=>carry i y hy
    rw[e1]
    simp only[Option.bind_some]
    have e2:(if sp a.block=true then(List.range (cap-len)).mapM fun j=>(W'.cells? 0 (a.add ((len+j)*P.cellsOf e)) (P.cellsOf e)).bind (DataW.trod enc P W' 0 sp true n e)else some [])=some rest:=by
     have e3:=mapM_carry (g:=fun j=>(W'.cells? 0 (a.add ((len+j)*P.cellsOf e)) (P.cellsOf e)).bind (DataW.trod enc P W' 0 sp true n e)) hr fun j y _ _ hy=>carry (len+j) y hy
     split
     ·exact e3
     ·rename_i Mu
      have gg:rest.length=cap-len:=by
       have:∀(l:List Nat) (f:Nat->Option (DataW aR×List MemPlace)) (r:List (DataW aR×List MemPlace)),l.mapM f=some r->r.length=l.length:=fun l=>by
        induction l with
        | nil=>intro f r W;simp at W;subst W;rfl
        | cons x l ih =>
         intro f r W
         simp only[List.mapM_cons,bind,Option.bind_eq_some_iff,pure,Option.some.injEq]at W
         obtain⟨y,_,ys,jp,rfl⟩:=W
         simp[ih f ys jp]
       have:=this _ _ _ hr
       simpa using this
      by_cases h0:cap-len=0
      ·rw[h0]at gg
       rw[List.length_eq_zero_iff.1 gg]
      ·exfalso
       apply Mu
       refine x3 (.cell a.block (a.off+0)) (List.mem_append_left _ (MemPlace.mem_row.2 ⟨0,?_,rfl⟩))
       exact Nat.mul_pos (by omega) (by omega)
    rw[e2];rfl
  ·cases h
theorem T1 {t:TypeId} {sh:Sh} (hs:Ic P t=some sh) {ak:World} {base:Nat} {v:Value} (iV:Value.okWide P ak .any base t v) {d:DataW aR} {p:List MemPlace} (h:DataW.Trod enc P ak 0 (fun _=>true) true t v d p) :
  Fits ak sh v/\∀(W':World) (sp:Nat->Bool),(∀b,b<ak.heap.size->W'.heap[b]? = ak.heap[b]?)->(∀q∈p,sp q.block=true)->DataW.Trod enc P W' 0 sp true t v d p:=by
 obtain⟨n,hf⟩:=h
 have flatCase:∀ks,k8 P 8 t=some ks->KS ks v.cells.toList/\∀(W':World) (sp:Nat->Bool),DataW.Trod enc P W' 0 sp true t v d p:=fun ks u=>by
  obtain⟨_,g2,g3⟩:=AY (enc:=enc) 8 n t ks u ak 0 (fun _=>true) true _ _ hf
  exact⟨g2,fun W' sp=>⟨n,g3 W' 0 sp true⟩⟩
 cases hu:P.underlying t with
 | none=>unfold Ic at hs;rw[hu]at hs;cases hs
 | some ds =>
  unfold Ic at hs
  rw[hu]at hs
  cases ds<;>simp only[reduceCtorEq,Option.some.injEq]at hs
  case bool =>
   subst hs
   obtain⟨b,rfl⟩:=okWide_bool hu iV
   refine⟨⟨.b,rfl,b,rfl⟩,fun W' sp _ _=>⟨n,?_⟩⟩
   cases n with
   | zero=>simp[DataW.trod]at hf
   | succ n=>simp only[DataW.trod_step,DataW.trodStep,hu,Value.cells]at hf ⊢;exact hf
  case int k =>
   subst hs
   obtain⟨i,rfl⟩:=okWide_int hu iV
   cases n with
   | zero=>simp[DataW.trod]at hf
   | succ n =>
    simp only[DataW.trod_step,DataW.trodStep,hu,Value.cells]at hf
    refine⟨⟨.i k,rfl,i,rfl,?_⟩,fun W' sp _ _=>⟨n+1,?_⟩⟩
    ·by_cases hw:(Lit.int k i).wf=true
     ·exact hw
     ·simp[hw]at hf
    ·simp only[DataW.trod_step,DataW.trodStep,hu,Value.cells];exact hf
  case string =>
   subst hs
   obtain⟨s,rfl⟩:=okWide_string hu iV
   cases n with
   | zero=>simp[DataW.trod]at hf
   | succ n =>
    simp only[DataW.trod_step,DataW.trodStep,hu,Value.cells]at hf
    refine⟨⟨.s,rfl,s,rfl,?_⟩,fun W' sp _ _=>⟨n+1,?_⟩⟩
    ·by_cases hw:s.size<=maxLen
     ·exact hw
     ·simp[hw]at hf
    ·simp only[DataW.trod_step,DataW.trodStep,hu,Value.cells];exact hf
  case struct fs =>
   obtain⟨ks,u,rfl⟩:=Option.map_eq_some_iff.1 hs
   obtain⟨g1,g2⟩:=flatCase ks u
   have R:∃cs,v = .agg cs:=by
    simp only[Value.okWide,hu]at iV
    obtain⟨cs,A,_⟩:=iV
    exact⟨cs,A⟩
   obtain⟨cs,rfl⟩:=R
   exact⟨⟨cs,rfl,g1⟩,fun W' sp _ _=>g2 W' sp⟩
  case array m e =>
   obtain⟨ks,u,rfl⟩:=Option.map_eq_some_iff.1 hs
   obtain⟨g1,g2⟩:=flatCase ks u
   have R:∃cs,v = .agg cs:=by
    simp only[Value.okWide,hu]at iV
    obtain⟨cs,A,_⟩:=iV
    exact⟨cs,A⟩
   obtain⟨cs,rfl⟩:=R
   exact⟨⟨cs,rfl,g1⟩,fun W' sp _ _=>g2 W' sp⟩
  case slice e =>
   obtain⟨ks,u,hs⟩:=Option.bind_eq_some_iff.1 hs
   split at hs
   ·rename_i H
    cases hs
    obtain⟨ab,len,cap,rfl⟩:=okWide_slice hu iV
    cases n with
    | zero=>simp[DataW.trod]at hf
    | succ n =>
     obtain⟨g1,g2⟩:=arD hu u H.1 H.2 hf
     exact⟨g1,fun W' sp A E=>⟨n+1,g2 W' sp A E⟩⟩
   ·cases hs
theorem ZL {w:World} {base:Nat} {sp:Nat->Bool} {held:Bool}:∀{ts:List TypeId} {vs:List Value} {ds:List (DataW aR)} {p:List MemPlace},DataW.TrodAll enc P w base sp held ts vs ds p->ds.length=ts.length
 | [],vs,ds,p,h=>by obtain⟨_,rfl,_⟩:=trodAll_nil h;rfl
 | t::ts,vs,ds,p,h=>by
  obtain⟨v,ch,d,sb,p1,p2,_,rfl,_,_,E⟩:=trodAll_cons h
  simp[ZL E]
end
end Go.Proofs.Xw
namespace Go.Proofs.Xw
open Go Go.Proofs.Aw
def T.outs:T (XE×XS)->T (XE×XS)
 | .ret (.normal,_) => .fail []
 | .ret (.exit j,s) => .ret (.exit j,s)
 | .ret (.ret,s) => .ret (.ret,s)
 | .br c x y => .br c x.outs y.outs
 | .cL c x => .cL c x.outs
 | .fail w => .fail w
theorem T.Hc {ρ:aa} {e:XE} {s:XS} (G:e ≠ .normal):∀{t:T (XE×XS)},t.aq ρ=some (e,s)->t.outs.aq ρ=some (e,s)
 | .ret (.normal,_),h=>by cases h;exact absurd rfl G
 | .ret (.exit j,s),h=>h
 | .ret (.ret,s),h=>h
 | .br c x y,h=>by
  simp only[T.aq]at h
  simp only[T.outs,T.aq]
  split
  ·rename_i H;rw[if_pos H]at h;exact T.Hc G h
  ·rename_i H;rw[if_neg H]at h;exact T.Hc G h
 | .cL c x,h=>by
  simp only[T.aq]at h
  simp only[T.outs,T.aq]
  split
  ·rename_i H;rw[if_pos H]at h;exact T.Hc G h
  ·rename_i H;rw[if_neg H]at h;cases h
 | .fail _,h=>by cases h
def T.lT (n:Nat):T (XE×XS)->Bool
 | .ret (_,s)=>s.ar n
 | .br c x y=>c.ar n&&(x.lT n&&y.lT n)
 | .cL c x=>c.ar n&&x.lT n
 | .fail _=>true
theorem T.z5 {n:Nat} {ρ F:aa} (h:az n ρ F) {e:XE} {s:XS}:∀{t:T (XE×XS)},t.lT n=true->t.aq ρ=some (e,s)->t.aq F=some (e,s)/\s.I ρ=s.I F
 | .ret (_,s'),hb,hs=>by cases hs;exact⟨rfl,XS.aT h _ hb⟩
 | .br c x y,hb,hs=>by
  simp only[T.lT,Bool.and_eq_true]at hb
  simp only[T.aq]at hs ⊢
  rw[<-BE.aT h c hb.1]
  split
  ·rename_i H;rw[if_pos H]at hs;exact T.z5 h hb.2.1 hs
  ·rename_i H;rw[if_neg H]at hs;exact T.z5 h hb.2.2 hs
 | .cL c x,hb,hs=>by
  simp only[T.lT,Bool.and_eq_true]at hb
  simp only[T.aq]at hs ⊢
  rw[<-BE.aT h c hb.1]
  split
  ·rename_i H;rw[if_pos H]at hs;exact T.z5 h hb.2 hs
  ·rename_i H;rw[if_neg H]at hs;cases hs
 | .fail _,_,hs=>by cases hs
def T.gB (p:XS->Bool):T (XE×XS)->Bool
 | .ret (.normal,s)=>p s
 | .ret _=>true
 | .br _ x y=>x.gB p&&y.gB p
 | .cL _ x=>x.gB p
 | .fail _=>true
theorem T.GW {p:XS->Bool} {ρ:aa} {s:XS}:∀{t:T (XE×XS)},t.gB p=true->t.aq ρ=some (.normal,s)->p s=true
 | .ret (.normal,_),h,hs=>by cases hs;exact h
 | .ret (.exit j,_),_,hs=>by cases hs
 | .ret (.ret,_),_,hs=>by cases hs
 | .br c x y,h,hs=>by
  simp only[T.gB,Bool.and_eq_true]at h
  simp only[T.aq]at hs
  split at hs
  ·exact T.GW h.1 hs
  ·exact T.GW h.2 hs
 | .cL c x,h,hs=>by
  simp only[T.aq]at hs
  split at hs
  ·exact T.GW (t:=x) h hs
  ·cases hs
 | .fail _,_,hs=>by cases hs
def dV (ks:List Nat) (p:XE×XS):XE×XS:=(p.1,⟨pT p.2.t ks [] [],p.2.h,p.2.nx⟩)
theorem zk (ks:List Nat) (ρ:aa) (p:XE×XS):fX ((dV ks p).2.I ρ) (p.2.I ρ):=by
 refine⟨fun i => ?_,fun m cs aI=>⟨cs,aI,bo.refl cs⟩,Nat.le_refl _⟩
 simp only[XS.I,dV,jf,Dc]
 split
 ·exact bT.refl _
 ·simp only[bY,X.I];exact bT.top _
theorem ahX {P:Program} {ρ:aa} {N:Nat} {body:Code} {L:bf} {ti:Nat->Option TI} {call:bB} {ms:List Nat} {bN:List bf} {fuel:Nat} (hm:P.follows .mixedOrders=true) (a_:eL.ok P ti)
  {B:J} {tr:T (XE×XS)} (bD:(ck ti call ms L.k0 bN fuel body B L.S).map (dV (L.S.t.map (·.1)))=tr) (d7:da N body=true) {β:Bind} {nm:List (Nm×Nm)} (ut:tr.gB (ff L.k0 L.n β nm L.S)=true) (u9:L.out=tr.outs)
  (ad:Nat) (qx:tr.outs.lT ad=true) (aF:Nat->aa->Prop) (h0:∃k,aF k (L.init.ap ρ))
  (hR:∀k F,aF k F->cS P F call/\a1 P F N bN body/\J.ok F B /\
   ((∃e s,e≠XE.normal/\tr.aq F=some (e,s)/\az ad F ρ)\/∃s,tr.aq F=some (.normal,s)/\∃k',k'<k/\aF k' (β.ap F))):bW P ρ N body L:=by
 intro ac hE hb
 obtain⟨k,u⟩:=h0
 refine Rw (fun k V=>∃F,aF k F/\V=L.S.I F) k ⟨_,BM _ _,_,u,rfl⟩ (fun k V agy => ?_)
 obtain⟨F,afB,rfl⟩:=agy
 obtain⟨aP,M,BL,ho⟩:=hR k F afB
 have run:∀(e:XE) (s:XS),tr.aq F=some (e,s)->AW P ac body (fun e' s'=>e'=e.to/\dF ac s' (s.I F)) (L.S.I F):=fun e s hs=>by
  rw[<-bD]at hs
  obtain⟨q,hq,G⟩:=T.je _ hs
  have g:=jY (ac:=ac) hm a_ aP hb body B L.S q.1 q.2 BL (by rw[hE];exact d7) (by rw[hE];exact M) hq
  have A:=congrArg Prod.fst G
  have E:=congrArg Prod.snd G
  simp only at A E
  subst A E
  exact dE (fun e' s' W=>⟨W.1,fp W.2 (zk _ F q)⟩) g
 rcases ho with⟨e,s,G,hs,cf⟩ | ⟨s,hs,k',aQ,aM⟩
 ·have g:=run e s hs
  refine dE (fun e' s' hq => ?_) g
  obtain⟨rfl,hi⟩:=hq
  obtain⟨A,E⟩:=T.z5 cf qx (T.Hc G hs)
  have fin:∃e' YM,L.out.aq ρ=some (e',YM)/\e.to=e'.to/\dF ac s' (YM.I ρ):=⟨e,s,by rw[u9];exact A,rfl,by rw[<-E];exact hi⟩
  cases e with
  | normal=>exact absurd rfl G
  | exit j=>exact fin
  | ret=>exact fin
 ·have g:=run .normal s hs
  refine dE (fun e' s' hq => ?_) g
  obtain⟨rfl,hi⟩:=hq
  exact⟨k',_,aQ,vn hi (jF hb (T.GW ut hs) F),β.ap F,aM,rfl⟩
noncomputable def Bind.it (β:Bind) (ρ:aa):Nat->aa
 | 0=>ρ
 | j+1=>β.ap (β.it ρ j)
theorem Bind.vt {n:Nat} {β:Bind} (h:β.ge n=true) (ρ:aa):∀j,az n ρ (β.it ρ j)
 | 0=>az.refl _ _
 | j+1=>(Bind.vt h ρ j).trans (Bind.bt h _)
def pr {ao β:Type}:List (Nat×ao)->List (Nat×β)->Bool
 | [],[]=>true
 | (a,_)::r,(b,_)::s=>Nat.beq a b&&pr r s
 | _,_=>false
theorem kq {ao β:Type} {k:Nat}:∀{l:List (Nat×ao)} {m:List (Nat×β)},pr l m=true->(be k l=none↔be k m=none)
 | [],[],_=>⟨fun _=>rfl,fun _=>rfl⟩
 | [],_::_,h=>by cases h
 | _::_,[],h=>by simp[pr]at h
 | (a,v)::r,(b,w)::s,h=>by
  simp only[pr,Bool.and_eq_true]at h
  have ha:=Nat.eq_of_beq_eq_true h.1
  subst ha
  simp only[be]
  split
  ·simp
  ·exact kq h.2
def Bind.same (β mp:Bind):Bool:=pr β.i mp.i&&(pr β.b mp.b&&(pr β.s mp.s&&pr β.r mp.r))
def vv {ao:Type} (f:ao->Bool):List (Nat×ao)->Bool
 | []=>true
 | (_,v)::r=>f v&&vv f r
theorem gX {ao:Type} {f:ao->Bool} {k:Nat} {v:ao}:∀{l:List (Nat×ao)},vv f l=true->be k l=some v->f v=true
 | [],_,h=>by cases h
 | (a,w)::r,hb,h=>by
  simp only[vv,Bool.and_eq_true]at hb
  simp only[be]at h
  split at h
  ·cases h;exact hb.1
  ·exact gX hb.2 h
def Bind.ar (n:Nat) (β:Bind):Bool:=vv (U.ar n) β.i&&(vv (BE.ar n) β.b&&(vv (TE.ar n) β.s&&vv (fun p:U×RL=>p.1.ar n&&p.2.ar n) β.r))
theorem Bind.acJ {n m:Nat} {β:Bind} (hb:β.ar n=true) {ρ F:aa} (h:az n ρ F) (_hm:az m ρ F\/m=n):az (Nat.min n m) (β.ap ρ) (β.ap F):=by
 simp only[Bind.ar,Bool.and_eq_true]at hb
 obtain⟨A,E,h3,h4⟩:=hb
 have hn:=h.le (Nat.min_le_left n m)
 refine⟨fun k u => ?_,fun k u => ?_,fun k u => ?_,fun k u => ?_,fun k u => ?_,fun k u => ?_,fun k u => ?_,fun k u=>hn.ct k u⟩
 ·simp only[Bind.ap]
  cases G:be k β.i with
  | none=>exact hn.i k u
  | some e=>exact U.aT h e (gX A G)
 ·simp only[Bind.ap]
  cases G:be k β.b with
  | none=>exact hn.b k u
  | some e=>exact BE.aT h e (gX E G)
 ·simp only[Bind.ap]
  cases G:be k β.s with
  | none=>exact hn.s k u
  | some e=>exact TE.aT h e (gX h3 G)
 ·simp only[Bind.ap]
  cases G:be k β.r with
  | none=>exact hn.len k u
  | some e =>
   have:=gX h4 G
   simp only[Bool.and_eq_true]at this
   simp only[U.aT h e.1 this.1]
 all_goals
  funext a b
  simp only[Bind.ap]
  cases G:be k β.r with
  | none=>first | exact congrFun (congrFun (hn.ci k u) a) b | exact congrFun (congrFun (hn.cb k u) a) b | exact congrFun (congrFun (hn.cs k u) a) b
  | some e =>
   have:=gX h4 G
   simp only[Bool.and_eq_true]at this
   simp only[RL.iD h e.2 _ this.2]
theorem Bind.agN {n:Nat} {bG β:Bind} (hi:bG.ar n=true) (hb:β.ge n=true) (hs:bG.same β=true) (ρ:aa) (j:Nat):bG.ap (β.it (bG.ap ρ) j)=bG.ap ρ:=by
 simp only[Bind.same,Bool.and_eq_true]at hs
 obtain⟨s1,s2,s3,s4⟩:=hs
 simp only[Bind.ar,Bool.and_eq_true]at hi
 obtain⟨A,E,h3,h4⟩:=hi
 have stay:∀j,(∀k,be k bG.i=none->(β.it (bG.ap ρ) j).i k=ρ.i k)/\(∀k,be k bG.b=none->(β.it (bG.ap ρ) j).b k=ρ.b k)/\(∀k,be k bG.s=none->(β.it (bG.ap ρ) j).s k=ρ.s k) /\
   (∀k,be k bG.r=none->(β.it (bG.ap ρ) j).len k=ρ.len k/\(β.it (bG.ap ρ) j).ci k=ρ.ci k/\(β.it (bG.ap ρ) j).cb k=ρ.cb k/\(β.it (bG.ap ρ) j).cs k=ρ.cs k):=by
  intro j
  induction j with
  | zero =>
   refine⟨fun k u => ?_,fun k u => ?_,fun k u => ?_,fun k u=>⟨?_,?_,?_,?_⟩⟩
   ·simp only[Bind.it,Bind.ap,u]
   ·simp only[Bind.it,Bind.ap,u]
   ·simp only[Bind.it,Bind.ap,u]
   ·simp only[Bind.it,Bind.ap,u]
   ·funext a b;simp only[Bind.it,Bind.ap,u]
   ·funext a b;simp only[Bind.it,Bind.ap,u]
   ·funext a b;simp only[Bind.it,Bind.ap,u]
  | succ j ih =>
   obtain⟨i1,oh,vk,jy⟩:=ih
   refine⟨fun k u => ?_,fun k u => ?_,fun k u => ?_,fun k u=>⟨?_,?_,?_,?_⟩⟩
   ·have:=(kq s1).1 u
    simp only[Bind.it];rw[show(β.ap (β.it (bG.ap ρ) j)).i k=(β.it (bG.ap ρ) j).i k from by simp only[Bind.ap,this]];exact i1 k u
   ·have:=(kq s2).1 u
    simp only[Bind.it];rw[show(β.ap (β.it (bG.ap ρ) j)).b k=(β.it (bG.ap ρ) j).b k from by simp only[Bind.ap,this]];exact oh k u
   ·have:=(kq s3).1 u
    simp only[Bind.it];rw[show(β.ap (β.it (bG.ap ρ) j)).s k=(β.it (bG.ap ρ) j).s k from by simp only[Bind.ap,this]];exact vk k u
   ·have:=(kq s4).1 u
    simp only[Bind.it];rw[show(β.ap (β.it (bG.ap ρ) j)).len k=(β.it (bG.ap ρ) j).len k from by simp only[Bind.ap,this]];exact(jy k u).1
   ·have:=(kq s4).1 u
    simp only[Bind.it];rw[show(β.ap (β.it (bG.ap ρ) j)).ci k=(β.it (bG.ap ρ) j).ci k from by funext a b;simp only[Bind.ap,this]];exact(jy k u).2.1
   ·have:=(kq s4).1 u
    simp only[Bind.it];rw[show(β.ap (β.it (bG.ap ρ) j)).cb k=(β.it (bG.ap ρ) j).cb k from by funext a b;simp only[Bind.ap,this]];exact(jy k u).2.2.1
   ·have:=(kq s4).1 u
    simp only[Bind.it];rw[show(β.ap (β.it (bG.ap ρ) j)).cs k=(β.it (bG.ap ρ) j).cs k from by funext a b;simp only[Bind.ap,this]];exact(jy k u).2.2.2
 have u2:bG.ge n=true:=by
  simp only[Bind.ge,Bool.and_eq_true]at hb ⊢
  have ge:∀{ao mp:Type} {l:List (Nat×ao)} {m:List (Nat×mp)},pr l m=true->kp n m=true->kp n l=true:=by
   intro ao mp l
   induction l with
   | nil=>intro m _ _;rfl
   | cons p l ih =>
    intro m A E
    match m,A,E with
    | q::m,A,E =>
     simp only[pr,Bool.and_eq_true]at A
     simp only[kp,Bool.and_eq_true]at E ⊢
     rw[Nat.eq_of_beq_eq_true A.1]
     exact⟨E.1,ih A.2 E.2⟩
  exact⟨ge s1 hb.1,ge s2 hb.2.1,ge s3 hb.2.2.1,ge s4 hb.2.2.2⟩
 have cf:az n (β.it (bG.ap ρ) j) ρ:=((Bind.bt u2 ρ).trans (Bind.vt hb _ j)).symm
 obtain⟨i1,oh,vk,jy⟩:=stay j
 have ext:∀{a b:aa},a.i=b.i->a.b=b.b->a.s=b.s->a.len=b.len->a.ci=b.ci->a.cb=b.cb->a.cs=b.cs->a.ct=b.ct->a=b:=fun {a b} q1 q2 q3 q4 q5 q6 q7 v4=>by
  cases a;cases b;simp only at q1 q2 q3 q4 q5 q6 q7 v4;subst q1 q2 q3 q4 q5 q6 q7 v4;rfl
 have itc:∀j,(β.it (bG.ap ρ) j).ct=ρ.ct:=fun j=>by
  induction j with
  | zero=>rfl
  | succ j ih=>exact ih
 refine ext ?_ ?_ ?_ ?_ ?_ ?_ ?_ (itc j)
 ·funext k;simp only[Bind.ap]
  cases G:be k bG.i with
  | none=>exact i1 k G
  | some e=>exact U.aT cf e (gX A G)
 ·funext k;simp only[Bind.ap]
  cases G:be k bG.b with
  | none=>exact oh k G
  | some e=>exact BE.aT cf e (gX E G)
 ·funext k;simp only[Bind.ap]
  cases G:be k bG.s with
  | none=>exact vk k G
  | some e=>exact TE.aT cf e (gX h3 G)
 ·funext k;simp only[Bind.ap]
  cases G:be k bG.r with
  | none=>exact(jy k G).1
  | some e =>
   have:=gX h4 G
   simp only[Bool.and_eq_true]at this
   exact congrArg Int.toNat (U.aT cf e.1 this.1)
 ·funext k a b;simp only[Bind.ap]
  cases G:be k bG.r with
  | none=>exact congrFun (congrFun (jy k G).2.1 a) b
  | some e =>
   have:=gX h4 G
   simp only[Bool.and_eq_true]at this
   exact congrArg (fun r:List AV=>aH r[a]?) (RL.iD cf e.2 b this.2)
 ·funext k a b;simp only[Bind.ap]
  cases G:be k bG.r with
  | none=>exact congrFun (congrFun (jy k G).2.2.1 a) b
  | some e =>
   have:=gX h4 G
   simp only[Bool.and_eq_true]at this
   exact congrArg (fun r:List AV=>dK r[a]?) (RL.iD cf e.2 b this.2)
 ·funext k a b;simp only[Bind.ap]
  cases G:be k bG.r with
  | none=>exact congrFun (congrFun (jy k G).2.2.2 a) b
  | some e =>
   have:=gX h4 G
   simp only[Bool.and_eq_true]at this
   exact congrArg (fun r:List AV=>cellS r[a]?) (RL.iD cf e.2 b this.2)
theorem ahW {P:Program} {ρ:aa} {N:Nat} {body:Code} {L:bf} {ti:Nat->Option TI} {call:bB} {ms:List Nat} {bN:List bf} {fuel:Nat} (hm:P.follows .mixedOrders=true) (a_:eL.ok P ti)
  {B:J} {tr:T (XE×XS)} (bD:(ck ti call ms L.k0 bN fuel body B L.S).map (dV (L.S.t.map (·.1)))=tr) (d7:da N body=true) {β:Bind} {nm:List (Nm×Nm)} (ut:tr.gB (ff L.k0 L.n β nm L.S)=true) (u9:L.out=tr.outs)
  (ad:Nat) (qx:tr.outs.lT ad=true) (hi:L.init.ar L.n=true) (hb:β.ge L.n=true) (hs:L.init.same β=true) (n:Nat)
  (hR:∀j,j<=n->cS P (β.it (L.init.ap ρ) j) call/\a1 P (β.it (L.init.ap ρ) j) N bN body/\J.ok (β.it (L.init.ap ρ) j) B /\
   (if j<n then ∃s,tr.aq (β.it (L.init.ap ρ) j)=some (.normal,s)else ∃e s,e≠XE.normal/\tr.aq (β.it (L.init.ap ρ) j)=some (e,s))):bW P (β.it (L.init.ap ρ) n) N body L:=by
 refine ahX hm a_ bD d7 ut u9 ad qx (fun k F=>∃j,j+k=n/\F=β.it (L.init.ap ρ) j) ⟨n,0,by omega,Bind.agN hi hb hs ρ n⟩ ?_
 rintro k F ⟨j,O,rfl⟩
 obtain⟨A,E,h3,h4⟩:=hR j (by omega)
 refine⟨A,E,h3,?_⟩
 by_cases oa:j<n
 ·rw[if_pos oa]at h4
  obtain⟨s,h4⟩:=h4
  exact .inr ⟨s,h4,k-1,by omega,j+1,by omega,rfl⟩
 ·rw[if_neg oa]at h4
  obtain⟨e,s,G,h4⟩:=h4
  obtain rfl:j=n:=by omega
  exact .inl ⟨e,s,G,h4,az.refl _ _⟩
theorem bW.bt {P:Program} {ρ F:aa} {N:Nat} {body:Code} {L:bf} {ad:Nat} (hS:L.S.ar ad=true) (hi:L.init.ar ad=true) (ho:L.out.lT ad=true) (h:az ad ρ F) (hL:bW P ρ N body L):bW P F N body L:=by
 intro ac hE hb
 have A:=hL ac hE hb
 have E:az ad (L.init.ap ρ) (L.init.ap F):=by
  have:=Bind.acJ (m:=ad) hi h (.inr rfl)
  rwa[show Nat.min ad ad=ad from Nat.min_self ad]at this
 rw[XS.aT E L.S hS]at A
 refine dE (fun e s hq => ?_) A
 obtain⟨e',s',q1,q2,q3⟩:=hq
 obtain⟨g1,g2⟩:=T.z5 h ho q1
 exact⟨e',s',g1,q2,by rw[<-g2];exact q3⟩
end Go.Proofs.Xw
namespace Go.Proofs.Xw
open Go Go.Proofs.Aw
theorem FV {β:Bind} {aB:Nat} {e:U} (hI:be aB β.i=some (.op .add .i64 (.var aB) (.lit 1))) {ρ:aa} (h0:ρ.i aB=0):∀j:Nat,j<9223372036854775808->(β.it ρ j).i aB=j
 | 0,_=>by simpa [Bind.it]using h0
 | j+1,O=>by
  have ih:=FV (e:=e) hI h0 j (by omega)
  simp only[Bind.it]
  rw[show(β.ap (β.it ρ j)).i aB=U.I (β.it ρ j) (.op .add .i64 (.var aB) (.lit 1))from by simp only[Bind.ap,hI]]
  simp only[U.I,a7.I,ih]
  rw[cc _ (by omega) (by omega)]
  omega
theorem J.ac6 {n:Nat} {ρ F:aa} (h:az n ρ F) {B:J} (hb:B.all (fun p=>p.1.ar n)=true) (u:J.ok ρ B):J.ok F B:=fun p hp=>by
 rw[<-BE.aT h p.1 (List.all_eq_true.1 hb p hp)]
 exact u p hp
theorem ahU {P:Program} {ρ:aa} {N:Nat} {body:Code} {L:bf} {ti:Nat->Option TI} {call:bB} {ms:List Nat} {bN:List bf} {fuel:Nat} (hm:P.follows .mixedOrders=true) (a_:eL.ok P ti)
  {B:J} {tr:T (XE×XS)} (bD:(ck ti call ms L.k0 bN fuel body B L.S).map (dV (L.S.t.map (·.1)))=tr) (d7:da N body=true) {β:Bind} {nm:List (Nm×Nm)} (ut:tr.gB (ff L.k0 L.n β nm L.S)=true) (u9:L.out=tr.outs)
  (ad:Nat) (qx:tr.outs.lT ad=true) (hi:L.init.ar L.n=true) (hb:β.ge L.n=true) (hs:L.init.same β=true)
  {aB:Nat} (hI:be aB β.i=some (.op .add .i64 (.var aB) (.lit 1))) (LK:be aB L.init.i=some (.lit 0)) {dk:J} (BL:B=(.lt (.var aB) (.lit 0),false)::dk) (MR:dk.all (fun p=>p.1.ar L.n)=true) (MQ:J.ok ρ dk) (u2:L.init.ge L.n=true)
  (aP:∀F,cS P F call) (lh:∀F,a1 P F N bN body) (n:Nat) (hn:n<9223372036854775808)
  (L':∀j,j<n->(β.it (L.init.ap ρ) j).i aB=j->az L.n ρ (β.it (L.init.ap ρ) j)->∃s,tr.aq (β.it (L.init.ap ρ) j)=some (.normal,s))
  (L6:(β.it (L.init.ap ρ) n).i aB=n->az L.n ρ (β.it (L.init.ap ρ) n)->∃e s,e≠XE.normal/\tr.aq (β.it (L.init.ap ρ) n)=some (e,s)):bW P (β.it (L.init.ap ρ) n) N body L:=by
 have js:=fun j=>FV (e := .lit 0) hI (ρ:=L.init.ap ρ) (by simp only[Bind.ap,LK];rfl) j
 have ah:=fun j=>(Bind.bt u2 ρ).trans (Bind.vt hb (L.init.ap ρ) j)
 refine ahW hm a_ bD d7 ut u9 ad qx hi hb hs n fun j O=>⟨aP _,lh _,?_,?_⟩
 ·rw[BL]
  refine J.av ?_ (J.ac6 (ah j) MR MQ)
  simp only[BE.I,U.I,js j (by omega)]
  exact decide_eq_false (by omega)
 ·by_cases oa:j<n
  ·rw[if_pos oa]
   exact L' j oa (js j (by omega)) (ah j)
  ·obtain rfl:j=n:=by omega
   rw[if_neg oa]
   exact L6 (js j (by omega)) (ah j)
theorem V6 {P:Program} {ρ:aa} {N:Nat} {body:Code} {L:bf} {ti:Nat->Option TI} {call:bB} {ms:List Nat} {bN:List bf} {fuel:Nat} (hm:P.follows .mixedOrders=true) (a_:eL.ok P ti)
  {B:J} {tr:T (XE×XS)} (bD:(ck ti call ms L.k0 bN fuel body B L.S).map (dV (L.S.t.map (·.1)))=tr) (d7:da N body=true) {β:Bind} {nm:List (Nm×Nm)} (ut:tr.gB (ff L.k0 L.n β nm L.S)=true) (u9:L.out=tr.outs)
  (ad:Nat) (qx:tr.outs.lT ad=true) (hi:L.init.ar L.n=true) (hb:β.ge L.n=true) (hs:L.init.same β=true)
  {aB:Nat} {e:U} {s1 s2:XS} {e2:XE} (Vf:tr = .br (.lt (.var aB) e) (.ret (.normal,s1)) (.ret (e2,s2))) (Bi:e2 ≠ .normal) (hI:be aB β.i=some (.op .add .i64 (.var aB) (.lit 1))) (LK:be aB L.init.i=some (.lit 0)) (G:e.ar L.n=true)
  {dk:J} (BL:B=(.lt (.var aB) (.lit 0),false)::dk) (MR:dk.all (fun p=>p.1.ar L.n)=true) (MQ:J.ok ρ dk) (u2:L.init.ge L.n=true)
  (aP:∀F,cS P F call) (lh:∀F,a1 P F N bN body) (n:Nat) (hn:n<9223372036854775808) (UV:e.I ρ=n):bW P (β.it (L.init.ap ρ) n) N body L:=by
 refine ahU hm a_ bD d7 ut u9 ad qx hi hb hs hI LK BL MR MQ u2 aP lh n hn (fun j O H ha=>⟨s1,?_⟩) (fun H ha=>⟨e2,s2,Bi,?_⟩)
 ·rw[Vf]
  simp only[T.aq,BE.I,<-U.aT ha e G,UV,U.I,H]
  rw[if_pos (decide_eq_true (by omega))]
 ·rw[Vf]
  simp only[T.aq,BE.I,<-U.aT ha e G,UV,U.I,H]
  rw[if_neg (by simp)]
noncomputable def fin (bG β:Bind) (l:Nat) (ρ:aa):aa:=β.it (bG.ap ρ) (ρ.len l)
def vU (bN:List bf) (ks:List Nat):Nat->List Code->Bool
 | _,[]=>true
 | k,c::r=>(qZ k ks||(jC (du c) bN).isEmpty)&&vU bN ks (k+1) r
theorem kv {P:Program} {ρ:aa} {N:Nat} {bN:List bf} {c:Code} (ks:List Nat) (ho:vU bN ks 0 (dP c)=true)
  (h:∀k∈ks,∀L∈jC (du ((dP c)[k]?.getD .skip)) bN,bW P ρ N ((dP c)[k]?.getD .skip) L):a1 P ρ N bN c:=by
 unfold a1
 generalize M:dP c=l at h ho ⊢
 have key:∀(r:List Code) (k0:Nat),vU bN ks k0 r=true->(∀j,r[j]? = l[k0+j]?)->∀dx∈r,∀L∈jC (du dx) bN,bW P ρ N dx L:=by
  intro r
  induction r with
  | nil=>intro k0 _ _ dx H;cases H
  | cons d r ih =>
   intro k0 ho O dx H L hL
   simp only[vU,Bool.and_eq_true,Bool.or_eq_true]at ho
   rcases List.mem_cons.1 H with rfl | H
   ·have h0:=O 0
    simp only[List.getElem?_cons_zero,Nat.add_zero]at h0
    rcases ho.1 with A | A
    ·have:=h k0 (Oj A)
     rw[<-h0]at this
     exact this L hL
    ·rw[List.isEmpty_iff.1 A]at hL;cases hL
   ·exact ih (k0+1) ho.2 (fun j=>by have:=O (j+1);rw[List.getElem?_cons_succ]at this;rw[this];congr 1;omega) dx H L hL
 exact key l 0 ho (fun j=>by rw[Nat.zero_add])
theorem ku {P:Program} {ρ:aa} {N:Nat} {c:Code} {L:bf} {bN:List bf} (h:jC (du c) bN=[L]) (hL:bW P ρ N c L):∀K∈jC (du c) bN,bW P ρ N c K:=fun K hK=>by
 rw[h]at hK
 rw[List.mem_singleton.1 hK];exact hL
theorem V5 {P:Program} {ρ:aa} {N:Nat} {c:Code} {Ls bN:List bf} (h:jC (du c) bN=Ls) (hL:∀L∈Ls,bW P ρ N c L):∀K∈jC (du c) bN,bW P ρ N c K:=fun K hK=>by
 rw[h]at hK
 exact hL K hK
theorem ov {P:Program} {ρ:aa} {f:FuncId} {i:p'} {fn:Func} {bN:List bf} (hi:jk P f i) (hf:P.funcs[f]? = some fn) (h:a1 P ρ fn.ntmps bN (fn.body.getD .skip)):a1 P ρ i.ntmps bN i.body:=by
 obtain⟨aul,g1,g2,_,g4,_⟩:=hi
 rw[hf]at g1
 cases g1
 rw[<-g4]
 rw[g2]at h
 exact h
end Go.Proofs.Xw
namespace Go.Proofs.Xw
open Go Go.Proofs.Aw
def o5:BE->BE
 | .not a=>o5 a
 | .and a _=>o5 a
 | .or a _=>o5 a
 | .ite c _ _=>o5 c
 | e=>e
def asX:BE->BE->Bool
 | .lt a b,.lt c d=>a.beq c||(a.beq d||(b.beq c||b.beq d))
 | .lt a b,.eq c d=>a.beq c||(a.beq d||(b.beq c||b.beq d))
 | .eq a b,.lt c d=>a.beq c||(a.beq d||(b.beq c||b.beq d))
 | .eq a b,.eq c d=>a.beq c||(a.beq d||(b.beq c||b.beq d))
 | a,b=>a.beq b
def oD (w:Bool) (c:BE):J->J
 | []=>[]
 | p::B=>if(w||asX c p.1)=true then p::oD w c B else oD w c B
theorem GI {ρ:aa} {w:Bool} {c:BE}:∀{B:J},J.ok ρ B->J.ok ρ (oD w c B)
 | [],h=>h
 | p::B,h=>by
  have A:=J.vS h
  unfold oD
  split
  ·exact fun q hq=>by
    rcases List.mem_cons.1 hq with rfl | hq
    ·exact A.1
    ·exact GI A.2 q hq
  ·exact GI A.2
def nA (w:Bool):Nat->J->List BE->BE->Bool
 | 0,_,_,_=>false
 | n+1,B,hs,e=>match e with
  | .lit b=>b
  | e=>match hs with
   | []=>nA w n (assume (o5 e) true B) [] (red (oD w (o5 e) (assume (o5 e) true B)) e)&&nA w n (assume (o5 e) false B) [] (red (oD w (o5 e) (assume (o5 e) false B)) e)
   | h::hs=>match red (oD w h B) h with
    | .lit _=>nA w n B hs e
    | h=>nA w n (assume h true B) hs (red (oD w h (assume h true B)) e)&&nA w n (assume h false B) hs (red (oD w h (assume h false B)) e)
theorem tN {ρ:aa} {w:Bool}:∀(n:Nat) (B:J) (hs:List BE) (e:BE),nA w n B hs e=true->J.ok ρ B->e.I ρ=true
 | 0,_,_,_,h,_=>by cases h
 | n+1,B,hs,e,h,u=>by
  have both:∀(c:BE) (cu:List BE),(nA w n (assume c true B) cu (red (oD w c (assume c true B)) e)&&nA w n (assume c false B) cu (red (oD w c (assume c false B)) e))=true->e.I ρ=true:=fun c cu h=>by
   rw[Bool.and_eq_true]at h
   cases H:c.I ρ with
   | true =>
    have aM:=gn c true B H u
    rw[<-c9 (GI aM) e]
    exact tN n _ cu _ h.1 aM
   | false =>
    have aM:=gn c false B H u
    rw[<-c9 (GI aM) e]
    exact tN n _ cu _ h.2 aM
  unfold nA at h
  split at h
  ·exact h
  ·split at h
   ·exact both _ _ h
   ·split at h
    ·exact tN n B _ _ h u
    ·exact both _ _ h
theorem tM {w:Bool} {n:Nat} {hs:List BE} {a b:BE} (h:nA w n [] hs (.ite a b (.not b))=true) (ρ:aa):a.I ρ=b.I ρ:=by
 have:=tN (ρ:=ρ) n [] hs _ h (J.bq ρ)
 simp only[BE.I]at this
 cases ha:BE.I ρ a<;>cases hb:BE.I ρ b<;>rw[ha,hb]at this<;>simp_all
def nu (B:J) (p:BE×Bool):Bool:=match red B p.1 with
 | .lit b=>b==p.2
 | _=>false
theorem rz {ρ:aa} {B:J} (u:J.ok ρ B) {p:BE×Bool} (h:nu B p=true):p.1.I ρ=p.2:=by
 unfold nu at h
 split at h
 ·rename_i b hb
  rw[<-c9 u,hb]
  exact eq_of_beq h
 ·cases h
end Go.Proofs.Xw
namespace Go.Proofs.Xw
open Go Go.Proofs.Aw
structure o1 (bG:Bind) (ρ F:aa):Prop where
 i:∀k,be k bG.i=none->F.i k=ρ.i k
 b:∀k,be k bG.b=none->F.b k=ρ.b k
 s:∀k,be k bG.s=none->F.s k=ρ.s k
 r:∀k,be k bG.r=none->F.len k=ρ.len k/\F.ci k=ρ.ci k/\F.cb k=ρ.cb k/\F.cs k=ρ.cs k
 c:F.ct=ρ.ct
theorem o1.refl (bG:Bind) (ρ:aa):o1 bG ρ ρ:=⟨fun _ _=>rfl,fun _ _=>rfl,fun _ _=>rfl,fun _ _=>⟨rfl,rfl,rfl,rfl⟩,rfl⟩
theorem o1.trans {bG:Bind} {a b c:aa} (h:o1 bG a b) (k:o1 bG b c):o1 bG a c :=
  ⟨fun j O=>(k.i j O).trans (h.i j O),fun j O=>(k.b j O).trans (h.b j O),fun j O=>(k.s j O).trans (h.s j O),
   fun j O=>⟨(k.r j O).1.trans (h.r j O).1,(k.r j O).2.1.trans (h.r j O).2.1,(k.r j O).2.2.1.trans (h.r j O).2.2.1,(k.r j O).2.2.2.trans (h.r j O).2.2.2⟩,k.c.trans h.c⟩
theorem o1.of {bG β:Bind} (h:bG.same β=true) (ρ:aa):o1 bG ρ (β.ap ρ):=by
 simp only[Bind.same,Bool.and_eq_true]at h
 obtain⟨s1,s2,s3,s4⟩:=h
 refine⟨fun k u => ?_,fun k u => ?_,fun k u => ?_,fun k u=>⟨?_,?_,?_,?_⟩,rfl⟩
 ·simp only[Bind.ap,(kq s1).1 u]
 ·simp only[Bind.ap,(kq s2).1 u]
 ·simp only[Bind.ap,(kq s3).1 u]
 ·simp only[Bind.ap,(kq s4).1 u]
 ·funext a b;simp only[Bind.ap,(kq s4).1 u]
 ·funext a b;simp only[Bind.ap,(kq s4).1 u]
 ·funext a b;simp only[Bind.ap,(kq s4).1 u]
theorem o1.init {n:Nat} {bG:Bind} (hi:bG.ar n=true) {ρ F:aa} (h:o1 bG ρ F) (cf:az n F ρ):bG.ap F=bG.ap ρ:=by
 simp only[Bind.ar,Bool.and_eq_true]at hi
 obtain⟨A,E,h3,h4⟩:=hi
 obtain⟨i1,oh,vk,jy,MS⟩:=h
 have ext:∀{a b:aa},a.i=b.i->a.b=b.b->a.s=b.s->a.len=b.len->a.ci=b.ci->a.cb=b.cb->a.cs=b.cs->a.ct=b.ct->a=b:=fun {a b} q1 q2 q3 q4 q5 q6 q7 v4=>by
  cases a;cases b;simp only at q1 q2 q3 q4 q5 q6 q7 v4;subst q1 q2 q3 q4 q5 q6 q7 v4;rfl
 refine ext ?_ ?_ ?_ ?_ ?_ ?_ ?_ MS
 ·funext k;simp only[Bind.ap]
  cases G:be k bG.i with
  | none=>exact i1 k G
  | some e=>exact U.aT cf e (gX A G)
 ·funext k;simp only[Bind.ap]
  cases G:be k bG.b with
  | none=>exact oh k G
  | some e=>exact BE.aT cf e (gX E G)
 ·funext k;simp only[Bind.ap]
  cases G:be k bG.s with
  | none=>exact vk k G
  | some e=>exact TE.aT cf e (gX h3 G)
 ·funext k;simp only[Bind.ap]
  cases G:be k bG.r with
  | none=>exact(jy k G).1
  | some e =>
   have:=gX h4 G
   simp only[Bool.and_eq_true]at this
   exact congrArg Int.toNat (U.aT cf e.1 this.1)
 ·funext k a b;simp only[Bind.ap]
  cases G:be k bG.r with
  | none=>exact congrFun (congrFun (jy k G).2.1 a) b
  | some e =>
   have:=gX h4 G
   simp only[Bool.and_eq_true]at this
   exact congrArg (fun r:List AV=>aH r[a]?) (RL.iD cf e.2 b this.2)
 ·funext k a b;simp only[Bind.ap]
  cases G:be k bG.r with
  | none=>exact congrFun (congrFun (jy k G).2.2.1 a) b
  | some e =>
   have:=gX h4 G
   simp only[Bool.and_eq_true]at this
   exact congrArg (fun r:List AV=>dK r[a]?) (RL.iD cf e.2 b this.2)
 ·funext k a b;simp only[Bind.ap]
  cases G:be k bG.r with
  | none=>exact congrFun (congrFun (jy k G).2.2.2 a) b
  | some e =>
   have:=gX h4 G
   simp only[Bool.and_eq_true]at this
   exact congrArg (fun r:List AV=>cellS r[a]?) (RL.iD cf e.2 b this.2)
def jj (P:Program) (N:Nat) (body:Code) (k0:Nat) (S:XS) (out:T (XE×XS)) (ρ:aa):Prop :=
 ∀ac:Aw.Env,ac.N=N->(∀m,ac.c0.kn m->m.1<k0)->AW P ac body (fun e V=>∃e' s,e'≠XE.normal/\out.aq ρ=some (e',s)/\e=e'.to/\dF ac V (s.I ρ)) (S.I ρ)
def H' (β:Bind) (B:J) (p:BE×Bool):Bool:=match ft β p.1 with
 | some e=>nu B (e,p.2)
 | none=>false
theorem arx {β:Bind} {ρ:aa} {B bS:J} (u:J.ok ρ B) (h:bS.all (H' β B)=true):J.ok (β.ap ρ) bS:=fun p hp=>by
 have A:=List.all_eq_true.1 h p hp
 unfold H' at A
 split at A
 ·rename_i e G
  rw[<-nr G]
  exact rz u A
 ·cases A
mutual
def Wr:X->X->Bind->Bind
 | .sc (.i _ (.var k)),.sc (.i _ e),β=>⟨(k,e)::β.i,β.b,β.s,β.r⟩
 | .sc (.b (.var k)),.sc (.b e),β=>⟨β.i,(k,e)::β.b,β.s,β.r⟩
 | .sc (.s (.var k)),.sc (.s e),β=>⟨β.i,β.b,(k,e)::β.s,β.r⟩
 | .agg xs,.agg ys,β=>N7 xs ys β
 | .slv _ _ (.var o) (.var l) _,.slv _ _ o' l' _,β=>⟨(o,o')::(l,l')::β.i,β.b,β.s,β.r⟩
 | .slv _ _ (.var o) (.var l) _,.sl _ _ _ l' _,β=>⟨(o,.lit 0)::(l,.lit l')::β.i,β.b,β.s,β.r⟩
 | _,_,β=>β
def N7:List X->List X->Bind->Bind
 | x::xs,y::ys,β=>Wr x y (N7 xs ys β)
 | _,_,β=>β
end
def Wq (s:ba):ba->Bind->Bind
 | [],β=>β
 | (j,x)::r,β=>Wr x (bY s j) (Wq s r β)
def M2 (aB:Nat) (β:Bind):Bool:=match be aB β.i with
 | some e=>e.beq (.op .add .i64 (.var aB) (.lit 1))
 | none=>false
end Go.Proofs.Xw
namespace Go.Proofs.Xw
open Go Go.Proofs.Aw
structure jP where
 l:List (U×Int)
 c:Int
noncomputable def rG (ρ:aa):List (U×Int)->Int
 | []=>0
 | (e,k)::r=>k*e.I ρ+rG ρ r
noncomputable def jP.I (ρ:aa) (x:jP):Int:=rG ρ x.l+x.c
def D1 (e:U) (s:Int):List (U×Int)->List (U×Int)
 | []=>[(e,s)]
 | (d,k)::r=>if d.beq e=true then(d,k+s)::r else(d,k)::D1 e s r
theorem RT (ρ:aa) (e:U) (s:Int):∀l,rG ρ (D1 e s l)=s*e.I ρ+rG ρ l
 | []=>rfl
 | (d,k)::r=>by
  unfold D1
  split
  ·rename_i h
   rw[<-U.beq_eq _ _ h]
   simp only[rG,Int.add_mul];omega
  ·simp only[rG,RT ρ e s r];omega
def kr:U->Int->jP->jP
 | .lit n,s,x=>⟨x.l,x.c+s*n⟩
 | .op .cW _ a b,s,x=>kr a s (kr b s x)
 | .op .fO _ a b,s,x=>kr a s (kr b (-s) x)
 | .op .np _ (.lit n) b,s,x=>kr b (s*n) x
 | e,s,x=>⟨D1 e s x.l,x.c⟩
theorem Gb (ρ:aa) (e:U) (s:Int) (x:jP):(kr e s x).I ρ=s*e.I ρ+x.I ρ:=by
 fun_induction kr e s x with
 | case1 n s x=>simp only[jP.I,U.I];omega
 | case2 k a b s x el es=>rw[es,el];simp only[U.I,a7.I,Int.mul_add];omega
 | case3 k a b s x el es=>rw[es,el];simp only[U.I,a7.I,Int.mul_sub,Int.neg_mul];omega
 | case4 k n b s x ih=>rw[ih];simp only[U.I,a7.I,Int.mul_assoc]
 | case5=>simp only[jP.I,RT];omega
def D6:List (U×Int)->Bool
 | []=>true
 | (_,k)::r=>k==0&&D6 r
theorem RU (ρ:aa):∀l,D6 l=true->rG ρ l=0
 | [],_=>rfl
 | (e,k)::r,h=>by
  simp only[D6,Bool.and_eq_true,beq_iff_eq]at h
  simp only[rG,h.1,RU ρ r h.2,Int.zero_mul];rfl
def jP.Ke (x:jP):Option Int:=if D6 x.l=true then some x.c else none
theorem jP.adG {ρ:aa} {x:jP} {k:Int} (h:x.Ke=some k):x.I ρ=k:=by
 unfold jP.Ke at h
 split at h
 ·rename_i hz
  cases h
  simp only[jP.I,RU ρ _ hz,Int.zero_add]
 ·cases h
def jZ (a b c d:U):Option Int:=(kr a 1 (kr b (-1) (kr c (-1) (kr d 1 ⟨[],0⟩)))).Ke
theorem kY {ρ:aa} {a b c d:U} {k:Int} (h:jZ a b c d=some k):a.I ρ-b.I ρ=c.I ρ-d.I ρ+k:=by
 have:=jP.adG (ρ:=ρ) (x:=kr a 1 (kr b (-1) (kr c (-1) (kr d 1 ⟨[],0⟩)))) h
 rw[Gb,Gb,Gb,Gb]at this
 simp only[jP.I,rG]at this
 omega
def OT (a b:U):BE×Bool->Option Bool
 | (.lt c d,true)=>match jZ a b c d with
  | some k=>if decide (k<=0)then some true else none
  | none=>match jZ a b d c with
   | some k=>if decide (-1<=k)then some false else none
   | none=>none
 | (.lt c d,false)=>match jZ a b c d with
  | some k=>if decide (0<=k)then some false else none
  | none=>match jZ a b d c with
   | some k=>if decide (k<0)then some true else none
   | none=>none
 | (.eq c d,true)=>match jZ a b c d with
  | some k=>some (decide (k<0))
  | none=>match jZ a b d c with
   | some k=>some (decide (k<0))
   | none=>none
 | _=>none
theorem akW {ρ:aa} {a b:U} {p:BE×Bool} {r:Bool} (hp:p.1.I ρ=p.2) (h:OT a b p=some r):decide (a.I ρ<b.I ρ)=r:=by
 unfold OT at h
 split at h
 ·rename_i c d
  have hp:=of_decide_eq_true hp
  split at h
  ·rename_i k u
   have:=kY (ρ:=ρ) u
   split at h
   ·rename_i H;have H:=of_decide_eq_true H;cases h;exact decide_eq_true (by omega)
   ·cases h
  ·split at h
   ·rename_i k u
    have:=kY (ρ:=ρ) u
    split at h
    ·rename_i H;have H:=of_decide_eq_true H;cases h;exact decide_eq_false (by omega)
    ·cases h
   ·cases h
 ·rename_i c d
  have hp:=of_decide_eq_false hp
  split at h
  ·rename_i k u
   have:=kY (ρ:=ρ) u
   split at h
   ·rename_i H;have H:=of_decide_eq_true H;cases h;exact decide_eq_false (by omega)
   ·cases h
  ·split at h
   ·rename_i k u
    have:=kY (ρ:=ρ) u
    split at h
    ·rename_i H;have H:=of_decide_eq_true H;cases h;exact decide_eq_true (by omega)
    ·cases h
   ·cases h
 ·rename_i c d
  simp only[BE.I,beq_iff_eq]at hp
  split at h
  ·rename_i k u
   have:=kY (ρ:=ρ) u
   cases h
   exact decide_eq_decide.2 ⟨fun h=>by omega,fun h=>by omega⟩
  ·split at h
   ·rename_i k u
    have:=kY (ρ:=ρ) u
    cases h
    exact decide_eq_decide.2 ⟨fun h=>by omega,fun h=>by omega⟩
   ·cases h
 ·cases h
def OS (a b:U):BE×Bool->Option Bool
 | (.lt c d,true)=>match jZ a b c d with
  | some k=>if decide (k<=0)then some false else none
  | none=>match jZ a b d c with
   | some k=>if decide (0<=k)then some false else none
   | none=>none
 | (.lt c d,false)=>match jZ a b c d with
  | some k=>if decide (0<k)then some false else none
  | none=>match jZ a b d c with
   | some k=>if decide (k<0)then some false else none
   | none=>none
 | (.eq c d,v)=>match jZ a b c d with
  | some k=>if k==0 then some v else if v=true then some false else none
  | none=>match jZ a b d c with
   | some k=>if k==0 then some v else if v=true then some false else none
   | none=>none
 | _=>none
theorem akV {ρ:aa} {a b:U} {p:BE×Bool} {r:Bool} (hp:p.1.I ρ=p.2) (h:OS a b p=some r):(a.I ρ==b.I ρ)=r:=by
 unfold OS at h
 split at h
 ·rename_i c d
  have hp:=of_decide_eq_true hp
  split at h
  ·rename_i k u
   have:=kY (ρ:=ρ) u
   split at h
   ·rename_i H;have H:=of_decide_eq_true H;cases h;exact beq_eq_false_iff_ne.2 (by omega)
   ·cases h
  ·split at h
   ·rename_i k u
    have:=kY (ρ:=ρ) u
    split at h
    ·rename_i H;have H:=of_decide_eq_true H;cases h;exact beq_eq_false_iff_ne.2 (by omega)
    ·cases h
   ·cases h
 ·rename_i c d
  have hp:=of_decide_eq_false hp
  split at h
  ·rename_i k u
   have:=kY (ρ:=ρ) u
   split at h
   ·rename_i H;have H:=of_decide_eq_true H;cases h;exact beq_eq_false_iff_ne.2 (by omega)
   ·cases h
  ·split at h
   ·rename_i k u
    have:=kY (ρ:=ρ) u
    split at h
    ·rename_i H;have H:=of_decide_eq_true H;cases h;exact beq_eq_false_iff_ne.2 (by omega)
    ·cases h
   ·cases h
 ·rename_i c d v
  simp only[BE.I]at hp
  have fin:∀{k:Int},(a.I ρ-b.I ρ=c.I ρ-d.I ρ+k\/a.I ρ-b.I ρ=d.I ρ-c.I ρ+k)->(if(k==0)=true then some v else if v=true then some false else none)=some r->(a.I ρ==b.I ρ)=r:=by
   intro k u h
   split at h
   ·rename_i h0
    cases h
    simp only[beq_iff_eq]at h0
    rw[<-hp,Bool.eq_iff_iff]
    simp only[beq_iff_eq]
    constructor
    ·intro h;omega
    ·intro h;omega
   ·rename_i h0
    simp only[beq_iff_eq]at h0
    split at h
    ·rename_i R
     cases h
     rw[R]at hp
     simp only[beq_iff_eq]at hp
     exact beq_eq_false_iff_ne.2 (by omega)
    ·cases h
  split at h
  ·rename_i k u
   exact fin (.inl (kY u)) h
  ·split at h
   ·rename_i k u
    exact fin (.inr (kY u)) h
   ·cases h
 ·cases h
def zW (f:BE×Bool->Option Bool):J->Option Bool
 | []=>none
 | p::B=>ri (f p) (zW f B)
theorem Ju {ρ:aa} {f:BE×Bool->Option Bool} {Q:Bool->Prop} (hf:∀p r,p.1.I ρ=p.2->f p=some r->Q r):∀{B:J} {r:Bool},J.ok ρ B->zW f B=some r->Q r
 | [],_,_,h=>by cases h
 | p::B,r,u,h=>by
  have A:=J.vS u
  simp only[zW]at h
  cases e:f p with
  | some v=>rw[e]at h;cases h;exact hf p _ A.1 e
  | none=>rw[e]at h;exact Ju hf A.2 h
def NB (B:J) (a b:U):Option Bool:=match jZ a b (.lit 0) (.lit 0)with
 | some k=>some (decide (k<0))
 | none=>zW (OT a b) B
theorem ahQ {ρ:aa} {B:J} (u:J.ok ρ B) {a b:U} {r:Bool} (h:NB B a b=some r):decide (a.I ρ<b.I ρ)=r:=by
 unfold NB at h
 split at h
 ·rename_i k e
  have:=kY (ρ:=ρ) e
  simp only[U.I]at this
  cases h
  exact decide_eq_decide.2 ⟨fun h=>by omega,fun h=>by omega⟩
 ·exact Ju (Q:=fun r=>decide (a.I ρ<b.I ρ)=r) (fun p r hp=>akW hp) u h
def Nz (B:J) (a b:U):Option Bool:=match jZ a b (.lit 0) (.lit 0)with
 | some k=>some (k==0)
 | none=>zW (OS a b) B
theorem ahP {ρ:aa} {B:J} (u:J.ok ρ B) {a b:U} {r:Bool} (h:Nz B a b=some r):(a.I ρ==b.I ρ)=r:=by
 unfold Nz at h
 split at h
 ·rename_i k e
  have:=kY (ρ:=ρ) e
  simp only[U.I]at this
  cases h
  rw[Bool.eq_iff_iff]
  simp only[beq_iff_eq]
  constructor
  ·intro h;omega
  ·intro h;omega
 ·exact Ju (Q:=fun r=>(a.I ρ==b.I ρ)=r) (fun p r hp=>akV hp) u h
def E0 (B:J) (o p:a7) (k:IntKind) (a b:U):U:=if(ml k .i64&&qN (fI B (.op p .i64 a b)))=true then .op p .i64 a b else .op o k a b
theorem TP {ρ:aa} {B:J} (u:J.ok ρ B) {o p:a7} (ho:∀x y,o.I .i64 x y=IntKind.i64.wrap (p.I .i64 x y)) (k:IntKind) (a b:U):(E0 B o p k a b).I ρ=o.I k (a.I ρ) (b.I ρ):=by
 unfold E0
 split
 ·rename_i h
  rw[Bool.and_eq_true]at h
  rw[om h.1,ho]
  have:=vp (gW u (.op p .i64 a b)) h.2
  simp only[U.I]at this ⊢
  exact this.symm
 ·rfl
def Lh (B:J) (k:IntKind) (a b:U):U:=if(ml k .i64&&qN (fI B (mkMul a b)))=true then mkMul a b else .op .mul k a b
theorem aeM {ρ:aa} {B:J} (u:J.ok ρ B) (k:IntKind) (a b:U):(Lh B k a b).I ρ=a7.I .mul k (a.I ρ) (b.I ρ):=by
 unfold Lh
 split
 ·rename_i h
  rw[Bool.and_eq_true]at h
  rw[om h.1]
  have:=vp (gW u (mkMul a b)) h.2
  rw[yD]at this ⊢
  exact this.symm
 ·rfl
def Lf (B:J) (k:IntKind) (a b:U):U:=if(ml k .i64&&qN (fI B a))=true then a else .op .conv k a b
theorem aeK {ρ:aa} {B:J} (u:J.ok ρ B) (k:IntKind) (a b:U):(Lf B k a b).I ρ=a7.I .conv k (a.I ρ) (b.I ρ):=by
 unfold Lf
 split
 ·rename_i h
  rw[Bool.and_eq_true]at h
  rw[om h.1]
  exact(vp (gW u a) h.2).symm
 ·rfl
def Lg (B:J) (k:IntKind) (a b:U):U:=match red B (mkLt a b)with
 | .lit true=>b
 | .lit false=>a
 | _=>match red B (mkLt b a)with
  | .lit true=>a
  | .lit false=>b
  | _=>hQ .max k a b
theorem aeL {ρ:aa} {B:J} (u:J.ok ρ B) (k:IntKind) (a b:U):(Lg B k a b).I ρ=a7.max.I k (a.I ρ) (b.I ρ):=by
 have A:=c9 u (mkLt a b)
 have E:=c9 u (mkLt b a)
 rw[gY]at A E
 unfold Lg
 split
 ·rename_i e1
  rw[e1]at A
  have:=of_decide_eq_true (show decide (a.I ρ<b.I ρ)=true from A.symm)
  simp only[a7.I];omega
 ·rename_i e1
  rw[e1]at A
  have:=of_decide_eq_false (show decide (a.I ρ<b.I ρ)=false from A.symm)
  simp only[a7.I];omega
 ·split
  ·rename_i e1
   rw[e1]at E
   have:=of_decide_eq_true (show decide (b.I ρ<a.I ρ)=true from E.symm)
   simp only[a7.I];omega
  ·rename_i e1
   rw[e1]at E
   have:=of_decide_eq_false (show decide (b.I ρ<a.I ρ)=false from E.symm)
   simp only[a7.I];omega
  ·exact ow _ _ _ _ _
def Le (B:J):a7->IntKind->U->U->U
 | .add,k,a,b=>E0 B .add .cW k a b
 | .sub,k,a,b=>E0 B .sub .fO k a b
 | .mul,k,a,b=>Lh B k a b
 | .conv,k,a,b=>Lf B k a b
 | .np,_,a,b=>mkMul a b
 | .max,k,a,b=>Lg B k a b
 | o,k,a,b=>hQ o k a b
theorem aeJ {ρ:aa} {B:J} (u:J.ok ρ B) (o:a7) (k:IntKind) (a b:U):(Le B o k a b).I ρ=o.I k (a.I ρ) (b.I ρ):=by
 unfold Le
 split
 ·exact TP u (fun _ _=>rfl) _ _ _
 ·exact TP u (fun _ _=>rfl) _ _ _
 ·exact aeM u _ _ _
 ·exact aeK u _ _ _
 ·rw[yD];rfl
 ·exact aeL u _ _ _
 ·exact ow _ _ _ _ _
def OX (B:J) (a b:U):BE:=match NB B a b with
 | some v => .lit v
 | none=>red B (mkLt a b)
def OW (B:J) (a b:U):BE:=match Nz B a b with
 | some v => .lit v
 | none=>red B (mkEq a b)
theorem akZ {ρ:aa} {B:J} (u:J.ok ρ B) (a b:U):(OX B a b).I ρ=decide (a.I ρ<b.I ρ):=by
 unfold OX
 split
 ·rename_i v h;rw[ahQ u h];rfl
 ·rw[c9 u,gY]
theorem akY {ρ:aa} {B:J} (u:J.ok ρ B) (a b:U):(OW B a b).I ρ=(a.I ρ==b.I ρ):=by
 unfold OW
 split
 ·rename_i v h;rw[ahP u h];rfl
 ·rw[c9 u,eQ]
theorem BN {ρ:aa} {c:BE} {a b:U} (h:c.I ρ=true):(U.ite c a b).I ρ=a.I ρ:=by simp only[U.I,h,if_true]
theorem FW {ρ:aa} {c:BE} {a b:U} (h:c.I ρ=false):(U.ite c a b).I ρ=b.I ρ:=by simp only[U.I,h,Bool.false_eq_true,if_false]
def Ev (B:J) (e:U):Nat->U->U
 | k,.ite c a b=>match c with
  | .eq x y=>if(x.beq e&&y.beq (.lit k))=true then(match red B (mkLt (.lit k) e)with
    | .lit false=>a
    | _ => .ite c a (Ev B e (k+1) b))else .ite c a b
  | _ => .ite c a b
 | _,t=>t
theorem Sn {ρ:aa} {B:J} (u:J.ok ρ B) {e:U}:∀(t:U) (k:Nat),(k:Int)<=e.I ρ->(Ev B e k t).I ρ=t.I ρ
 | .ite c a b,k,h=>by
  unfold Ev
  split
  ·rename_i x y
   split
   ·rename_i hb
    rw[Bool.and_eq_true]at hb
    have A:=U.beq_eq _ _ hb.1
    have E:=U.beq_eq _ _ hb.2
    subst A E
    have hr:=c9 u (mkLt (.lit k) x)
    split
    ·rename_i G
     rw[G,gY]at hr
     have hr:decide ((k:Int)<x.I ρ)=false:=hr.symm
     have hr:=of_decide_eq_false hr
     have e1:(BE.eq x (.lit k)).I ρ=true:=by simp only[BE.I,U.I,beq_iff_eq];omega
     exact(BN e1).symm
    ·cases hx:(BE.eq x (.lit k)).I ρ with
     | true=>exact(BN hx).trans (BN hx).symm
     | false =>
      have h3:¬x.I ρ=k:=by simpa [BE.I,U.I]using hx
      exact(FW hx).trans ((Sn u b (k+1) (by omega)).trans (FW hx).symm)
   ·rfl
  ·rfl
 | .lit _,_,_ | .var _,_,_ | .cl _ _ _,_,_ | .len _,_,_ | .cB _,_,_ | .fD _ _,_,_ | .op _ _ _ _,_,_ | .uf _ _ _,_,_=>rfl
def J2 (B:J) (t:U):U:=match t with
 | .ite (.eq x y) _ _=>if y.beq (.lit 0)=true then(match red B (mkLt x (.lit 0))with
  | .lit false=>Ev B x 0 t
  | _=>t)else t
 | t=>t
theorem adx {ρ:aa} {B:J} (u:J.ok ρ B) (t:U):(J2 B t).I ρ=t.I ρ:=by
 unfold J2
 split
 ·rename_i x y a b
  split
  ·have hr:=c9 u (mkLt x (.lit 0))
   split
   ·rename_i G
    rw[G,gY]at hr
    simp only[BE.I,U.I]at hr
    have hr:=of_decide_eq_false hr.symm
    exact Sn u _ 0 (by simp only[Int.ofNat_zero]at *;omega)
   ·rfl
  ·rfl
 ·rfl
mutual
def nt (B:J):U->U
 | .op o k a b=>Le B o k (nt B a) (nt B b)
 | .ite c a b=>J2 B (lr (fu B c) (nt B a) (nt B b))
 | e=>e
def fu (B:J):BE->BE
 | .lt a b=>OX B (nt B a) (nt B b)
 | .eq a b=>OW B (nt B a) (nt B b)
 | .not a=>mkNot (fu B a)
 | .and a b=>mkAnd (fu B a) (fu B b)
 | .or a b=>mkOr (fu B a) (fu B b)
 | .ite c a b=>iq (fu B c) (fu B a) (fu B b)
 | e=>red B e
end
mutual
theorem rq {ρ:aa} {B:J} (u:J.ok ρ B):∀e:U,(nt B e).I ρ=e.I ρ
 | .op o k a b=>by simp only[nt,aeJ u,rq u a,rq u b,U.I]
 | .ite c a b=>by simp only[nt,adx u,s6,oG u c,rq u a,rq u b,U.I]
 | .lit _=>rfl
 | .var _=>rfl
 | .cl _ _ _=>rfl
 | .len _=>rfl
 | .cB _=>rfl
 | .fD _ _=>rfl
 | .uf _ _ _=>rfl
theorem oG {ρ:aa} {B:J} (u:J.ok ρ B):∀e:BE,(fu B e).I ρ=e.I ρ
 | .lt a b=>by simp only[fu,akZ u,rq u a,rq u b,BE.I]
 | .eq a b=>by simp only[fu,akY u,rq u a,rq u b,BE.I]
 | .not a=>by simp only[fu,et,oG u a,BE.I]
 | .and a b=>by simp only[fu,fM,oG u a,oG u b,BE.I]
 | .or a b=>by simp only[fu,ox,oG u a,oG u b,BE.I]
 | .ite c a b=>by simp only[fu,kx,oG u c,oG u a,oG u b,BE.I]
 | .lit _=>c9 u _
 | .var _=>c9 u _
 | .cl _ _ _=>c9 u _
 | .seq _ _=>c9 u _
 | .slt _ _=>c9 u _
end
def sT:BE->Bool
 | .lit b=>b
 | _=>false
theorem w5 {ρ:aa} {B:J} (u:J.ok ρ B) {e:BE} (h:sT (fu B e)=true):e.I ρ=true:=by
 rw[<-oG u e]
 unfold sT at h
 split at h
 ·rename_i b hb;rw[hb];exact h
 ·cases h
end Go.Proofs.Xw
namespace Go.Proofs.Xw
open Go Go.Proofs.Aw
def gj:Bind:=⟨[],[],[],[]⟩
theorem WR (ρ:aa):gj.ap ρ=ρ:=rfl
def ea (P:Program) (N:Nat) (body:Code) (k0:Nat) (S S':XS) (ρ F:aa):Prop :=
 ∀ac:Aw.Env,ac.N=N->(∀m,ac.c0.kn m->m.1<k0)->AW P ac body (fun e V=>e=XE.normal.to/\dF ac V (S'.I F)) (S.I ρ)
def WK (s:ba):ba->List (Nm×Nm)
 | []=>[]
 | (j,x)::r=>WL x (bY s j) (WK s r)
def Ot (S s:au):List (Nm×Nm)->List (Nm×Nm)->List (Nm×Nm)
 | [],cK=>cK
 | (a,b)::r,cK=>Ot S s r (match bh S a,bh s b with
  | some cs,some ds=>q_ cs ds cK
  | _,_=>cK)
def rowsOf (z:Nat):Nat->List X->Option RL
 | 0,_=>none
 | 1,l=>(oS (l.take z)).map RL.one
 | n+1,l=>match oS (l.take z),rowsOf z n (l.drop z)with
  | some r,some q=>some (.app (.lit 1) (.one r) q)
  | _,_=>none
def mtO (cs ds:List X) (β:Bind):Bind :=
 match cs,ds with
 | [.rows z (.len _) (.var L _)],[.rows _ m r]=>if Nat.beq z 0=true then β else⟨β.i,β.b,β.s,(L,m,r)::β.r⟩
 | [.rows z (.len _) (.var L _)],ds=>match rowsOf z (ds.length / z) ds with
  | some r=>⟨β.i,β.b,β.s,(L,.lit (ds.length / z:Nat),r)::β.r⟩
  | none=>β
 | cs,ds=>N7 cs ds β
def N6 (nm:List (Nm×Nm)) (s:au):au->Bind->Bind
 | [],β=>β
 | (j,cs)::r,β=>match bh s (eZ nm j)with
  | some ds=>mtO cs ds (N6 nm s r β)
  | none=>N6 nm s r β
def adb (nm:List (Nm×Nm)) (S s:XS):Bind:=N6 nm s.h S.h (Wq s.t S.t gj)
theorem ea.from {P:Program} {N:Nat} {body:Code} {k0:Nat} {S S':XS} {ρ bP F:aa} (h:S.I ρ=S.I bP) (k:ea P N body k0 S S' bP F):ea P N body k0 S S' ρ F:=fun ac hE hb=>by
 rw[h];exact k ac hE hb
end Go.Proofs.Xw
namespace Go.Proofs.Xw
open Go Go.Proofs.Aw
end Go.Proofs.Xw
namespace Go.Proofs.Xw
open Go Go.Proofs.Aw
mutual
def X.yI:X->Bool
 | .tk _ _ _ _ | .tq _ _ _ _ _ | .cJ _ _ _=>false
 | .agg cs | .tup cs | .ip cs _ _=>X.re cs
 | .ro _ D _=>X.GP D
 | .fn _ xs ys=>X.re xs&&X.re ys
 | .gd _ x=>x.yI
 | _=>true
def X.re:List X->Bool
 | []=>true
 | x::xs=>x.yI&&X.re xs
def X.GP:List (List X)->Bool
 | []=>true
 | e::D=>X.re e&&X.GP D
end
def aa.tok (ρ:aa) (c:Nat->Nat->Nat->NA):aa:={ ρ with ct:=c }
mutual
theorem U.bL (ρ:aa) (c:Nat->Nat->Nat->NA):∀e:U,e.I (ρ.tok c)=e.I ρ
 | .lit _=>rfl
 | .var _=>rfl
 | .cl l k j=>by simp only[U.I,U.bL ρ c j];rfl
 | .len _=>rfl
 | .cB t=>by simp only[U.I,TE.bL ρ c t]
 | .fD t j=>by simp only[U.I,TE.bL ρ c t,U.bL ρ c j]
 | .op _ _ a b=>by simp only[U.I,U.bL ρ c a,U.bL ρ c b]
 | .ite d a b=>by simp only[U.I,BE.bL ρ c d,U.bL ρ c a,U.bL ρ c b]
 | .uf _ _ a=>by simp only[U.I,AL.bL ρ c a]
theorem AL.bL (ρ:aa) (c:Nat->Nat->Nat->NA):∀e:AL,e.I (ρ.tok c)=e.I ρ
 | .nil=>rfl
 | .i e r=>by simp only[AL.I,U.bL ρ c e,AL.bL ρ c r]
 | .b e r=>by simp only[AL.I,BE.bL ρ c e,AL.bL ρ c r]
 | .s e r=>by simp only[AL.I,TE.bL ρ c e,AL.bL ρ c r]
theorem BE.bL (ρ:aa) (c:Nat->Nat->Nat->NA):∀e:BE,e.I (ρ.tok c)=e.I ρ
 | .lit _=>rfl
 | .var _=>rfl
 | .cl l k j=>by simp only[BE.I,U.bL ρ c j];rfl
 | .lt a b=>by simp only[BE.I,U.bL ρ c a,U.bL ρ c b]
 | .eq a b=>by simp only[BE.I,U.bL ρ c a,U.bL ρ c b]
 | .seq a b=>by simp only[BE.I,TE.bL ρ c a,TE.bL ρ c b]
 | .slt a b=>by simp only[BE.I,TE.bL ρ c a,TE.bL ρ c b]
 | .not a=>by simp only[BE.I,BE.bL ρ c a]
 | .and a b=>by simp only[BE.I,BE.bL ρ c a,BE.bL ρ c b]
 | .or a b=>by simp only[BE.I,BE.bL ρ c a,BE.bL ρ c b]
 | .ite d a b=>by simp only[BE.I,BE.bL ρ c d,BE.bL ρ c a,BE.bL ρ c b]
theorem TE.bL (ρ:aa) (c:Nat->Nat->Nat->NA):∀e:TE,e.I (ρ.tok c)=e.I ρ
 | .lit _=>rfl
 | .var _=>rfl
 | .cl l k j=>by simp only[TE.I,U.bL ρ c j];rfl
 | .sub t a b=>by simp only[TE.I,TE.bL ρ c t,U.bL ρ c a,U.bL ρ c b]
 | .ite d a b=>by simp only[TE.I,BE.bL ρ c d,TE.bL ρ c a,TE.bL ρ c b]
end
theorem Sc.bL (ρ:aa) (c:Nat->Nat->Nat->NA) (s:Sc):s.I (ρ.tok c)=s.I ρ:=by
 cases s<;>simp only[Sc.I,U.bL,BE.bL,TE.bL]
theorem JZ (ρ:aa) (c:Nat->Nat->Nat->NA) (l j:Nat):∀(ks:List Kd) (k:Nat),bH (ρ.tok c) l k ks j=bH ρ l k ks j
 | [],_=>rfl
 | kd::ks,k=>by cases kd<;>simp only[bH,JZ ρ c l j ks (k+1)]<;>rfl
theorem Y5 (ρ:aa) (c:Nat->Nat->Nat->NA) (r:List Sc):ca (ρ.tok c) r=ca ρ r:=by
 unfold ca
 exact List.map_congr_left fun s _=>by rw[Sc.bL]
theorem RL.wb (ρ:aa) (c:Nat->Nat->Nat->NA):∀(l:RL) (j:Int),l.row (ρ.tok c) j=l.row ρ j
 | .var l ks,j=>JZ ρ c l _ ks 0
 | .one r,_=>Y5 ρ c r
 | .app n a b,j=>by simp only[RL.row,RL.wb ρ c a,RL.wb ρ c b,U.bL]
 | .drop n a,j=>by simp only[RL.row,RL.wb ρ c a,U.bL]
 | .eK i r a,j=>by simp only[RL.row,RL.wb ρ c a,U.bL,Y5]
 | .ite d a b,j=>by simp only[RL.row,RL.wb ρ c a,RL.wb ρ c b,BE.bL]
theorem Yi (ρ:aa) (c:Nat->Nat->Nat->NA) (n:U) (l:RL):aV (ρ.tok c) n l=aV ρ n l:=by
 unfold aV
 rw[U.bL]
 exact List.map_congr_left fun j _=>RL.wb ρ c l j
theorem JY (ρ:aa) (c:Nat->Nat->Nat->NA) (l j:Nat):∀(ks:List Nk) (k:Nat),dL (ρ.tok c) l k ks j=dL ρ l k ks j
 | [],_=>rfl
 | .f kd::ks,k=>by cases kd<;>simp only[dL,rZ,JY ρ c l j ks (k+1)]<;>rfl
 | .r z S kk::ks,k=>by
  simp only[dL,oJ,JY ρ c l j ks (k+1),JZ ρ c S]
  rfl
theorem aqP (ρ:aa) (c:Nat->Nat->Nat->NA) (n:U) (l:Nat) (ks:List Nk):fS (ρ.tok c) n l ks=fS ρ n l ks:=by
 unfold fS
 rw[U.bL]
 exact List.map_congr_left fun j _=>JY ρ c l j ks 0
theorem J5 (ρ:aa) (c:Nat->Nat->Nat->NA) (d:Nat):∀aG,choose (ρ.tok c) aG d=choose ρ aG d
 | []=>rfl
 | (e,o)::r=>by simp only[choose,BE.bL,J5 ρ c d r]
mutual
theorem X.bL (ρ:aa) (c:Nat->Nat->Nat->NA):∀x:X,x.yI=true->x.I (ρ.tok c)=x.I ρ
 | .top,_=>rfl
 | .k _,_=>rfl
 | .sc s,_=>by simp only[X.I,Sc.bL]
 | .agg cs,h=>by simp only[X.I,X.r_ ρ c cs h]
 | .tup cs,h=>by simp only[X.I,X.r_ ρ c cs h]
 | .ptr _ aG d,_=>by simp only[X.I,J5]
 | .sl _ _ _ _ _,_=>rfl
 | .ip cs aG d,h=>by simp only[X.I,X.r_ ρ c cs h,J5]
 | .ro _ D _,h=>by simp only[X.I,X.SX ρ c D h]
 | .rl _ n l _,_=>by simp only[X.I,Yi]
 | .rn _ n l ks _,_=>by simp only[X.I,aqP]
 | .fn _ xs ys,h=>by
  simp only[X.yI,Bool.and_eq_true]at h
  simp only[X.I,X.r_ ρ c xs h.1,X.r_ ρ c ys h.2]
 | .gd e x,h=>by simp only[X.I,BE.bL,X.bL ρ c x h]
 | .rows _ _ _,_=>rfl
 | .slv _ _ _ _ _,_=>by simp only[X.I,U.bL]
 | .dv _ _ _ _,_=>by simp only[X.I,U.bL]
 | .tk _ _ _ _,h=>by cases h
 | .tq _ _ _ _ _,h=>by cases h
 | .cJ _ _ _,h=>by cases h
theorem X.r_ (ρ:aa) (c:Nat->Nat->Nat->NA):∀l:List X,X.re l=true->X.af (ρ.tok c) l=X.af ρ l
 | [],_=>rfl
 | x::xs,h=>by
  simp only[X.re,Bool.and_eq_true]at h
  simp only[X.af,X.bL ρ c x h.1,X.r_ ρ c xs h.2]
theorem X.SX (ρ:aa) (c:Nat->Nat->Nat->NA):∀l:List (List X),X.GP l=true->X.aX (ρ.tok c) l=X.aX ρ l
 | [],_=>rfl
 | x::xs,h=>by
  simp only[X.GP,Bool.and_eq_true]at h
  simp only[X.aX,X.r_ ρ c x h.1,X.SX ρ c xs h.2]
end
abbrev hh:=List (Nat×U×Nat×List (List X))
def rL (v:AV):NA:=if h:(Aw.b8 (fun _=>false) v&&v.one)=true then⟨v,(Bool.and_eq_true _ _▸h).1,(Bool.and_eq_true _ _▸h).2⟩else kz 0 0 0
theorem Ix {v:AV} (A:Aw.b8 (fun _=>false) v=true) (E:v.one=true):(rL v).1=v:=by
 unfold rL
 rw[dif_pos (by rw[A,E];rfl)]
noncomputable def zn (ρ:aa) (m:U) (t:Nat) (D:List (List X)) (k j:Nat):NA :=
 if j<(m.I ρ).toNat then ρ.ct t k j else rL (((X.aX ρ D)[j-(m.I ρ).toNat]?.bind (·[k]?)).getD (.sc (.bool false)))
noncomputable def pZ (q:hh) (ρ:aa) (t:Nat):Nat->Nat->NA:=match be t q with
 | some (m,t0,D)=>zn ρ m t0 D
 | none=>ρ.ct t
noncomputable def Bind.cD (β:Bind) (q:hh) (ρ:aa):aa:=(β.ap ρ).tok (pZ q ρ)
theorem Bind.uk {n:Nat} {β:Bind} {q:hh} (h:β.ge n=true) (hq:kp n q=true) (ρ:aa):az n ρ (β.cD q ρ):=by
 have a:=Bind.bt h ρ
 exact⟨a.i,a.b,a.s,a.len,a.ci,a.cb,a.cs,fun k u=>by
  show ρ.ct k=pZ q ρ k
  unfold pZ
  rw[qV hq u]⟩
theorem asR {ρ:aa} {β:Bind} {q:hh} {z t t0:Nat} {m m':U} {D:List (List X)} (hq:be t q=some (m',t0,D)) (h0:0<=m'.I ρ) (hm:m.I (β.cD q ρ)=m'.I ρ+D.length) (ho:OR z D=true):bC (β.cD q ρ) z m t=bC ρ z m' t0++X.aX ρ D:=by
 have M:(bC ρ z m' t0).length=(m'.I ρ).toNat:=by unfold bC;rw[List.length_map,List.length_range]
 apply List.ext_getElem?
 intro j
 have ct:∀k,((β.cD q ρ).ct t k j).1=(zn ρ m' t0 D k j).1:=fun k=>by
  show(pZ q ρ t k j).1=_
  unfold pZ
  rw[hq]
 have hE:(X.aX ρ D).length=D.length:=by simp[X.eg]
 by_cases c1:j<(m'.I ρ).toNat
 ·rw[List.getElem?_append_left (by omega)]
  unfold bC
  rw[List.getElem?_map,List.getElem?_map,List.getElem?_range (by omega),List.getElem?_range c1,Option.map_some,Option.map_some]
  congr 1
  exact List.map_congr_left fun k _=>by
   rw[ct]
   unfold zn
   rw[if_pos c1]
 ·rw[List.getElem?_append_right (by omega),M]
  by_cases c2:j<(m'.I ρ).toNat+D.length
  ·unfold bC
   rw[List.getElem?_map,List.getElem?_range (by omega),Option.map_some]
   obtain⟨e,G⟩:∃e,D[j-(m'.I ρ).toNat]? = some e:=⟨_,List.getElem?_eq_getElem (by omega)⟩
   have ho:=List.all_eq_true.1 ho e (List.mem_of_getElem? G)
   simp only[Bool.and_eq_true]at ho
   have hz:=Nat.eq_of_beq_eq_true ho.1
   rw[X.w_,G,Option.map_some]
   congr 1
   apply List.ext_getElem?
   intro k
   rw[List.getElem?_map]
   by_cases adc:k<z
   ·rw[List.getElem?_range adc,Option.map_some,ct]
    unfold zn
    rw[if_neg c1,X.w_,G,Option.map_some,Option.bind_some]
    obtain⟨x,hx⟩:∃x,e[k]? = some x:=⟨_,List.getElem?_eq_getElem (by omega)⟩
    have R:(X.af ρ e)[k]? = some (x.I ρ):=by rw[X.r9,hx];rfl
    rw[R,Option.getD_some,Ix (pC (X.pE ρ e ho.2.1) R) (X.one_den ρ x (List.all_eq_true.1 ho.2.2 x (List.mem_of_getElem? hx)))]
   ·rw[List.getElem?_eq_none (by rw[List.length_range];omega),List.getElem?_eq_none (by rw[X.f_];omega)];rfl
  ·rw[List.getElem?_eq_none (by unfold bC;rw[List.length_map,List.length_range];omega),List.getElem?_eq_none (by rw[hE];omega)]
def G9 (n:Nat) (β:Bind) (q:hh) (z:Nat) (m:U) (t:Nat) (m':U) (t':Nat) (D:List (List X)):Bool :=
 m'.nn&&(OR z D&&(gk n β m (mkAdd m' (.lit D.length))&&(if Nat.ble n t=true then(match be t q with
  | some (m2,t2,Tz)=>m2.beq m'&&(Nat.beq t2 t'&&X.nT Tz D)
  | none=>false)else Nat.beq t t'&&Nat.beq D.length 0)))
def G6 (n:Nat) (β:Bind) (q:hh) (aE:Nm->Nm) (p e:List X):Bool :=
 match p with
 | [.tk z m t []]=>(match e with
  | [.tk z' m' t' D]=>Nat.beq z z'&&G9 n β q z m t m' t' D
  | e => !b6 e&&(Nat.blt 0 z&&(Nat.beq e.length (e.length / z*z)&&G9 n β q z m t (.lit 0) 0 (nW z (e.length / z) e))))
 | p=>X.re p&&Cq n β aE p e
theorem Xl {n:Nat} {β:Bind} {q:hh} (Z:β.ge n=true) (hq:kp n q=true) {ρ:aa} {z:Nat} {m:U} {t:Nat} {m':U} {t':Nat} {D:List (List X)} (h:G9 n β q z m t m' t' D=true):bC (β.cD q ρ) z m t=bC ρ z m' t'++X.aX ρ D:=by
 unfold G9 at h
 simp only[Bool.and_eq_true]at h
 obtain⟨A,E,h3,h4⟩:=h
 have A:=U.kB ρ m' A
 have h3:m.I (β.cD q ρ)=m'.I ρ+D.length:=by
  have:=kD Z (ρ:=ρ) h3
  rw[fe]at this
  simp only[U.I]at this
  rw[<-this]
  exact U.bL _ _ m
 split at h4
 ·split at h4
  ·rename_i m2 t2 Tz M
   simp only[Bool.and_eq_true]at h4
   have e1:=U.beq_eq _ _ h4.1
   have e2:=Nat.eq_of_beq_eq_true h4.2.1
   have e3:=X.uv _ _ h4.2.2
   subst e1 e2 e3
   exact asR M A h3 E
  ·cases h4
 ·rename_i ht
  simp only[Bool.and_eq_true]at h4
  have e1:=Nat.eq_of_beq_eq_true h4.1
  subst e1
  obtain rfl:D=[]:=List.length_eq_zero_iff.1 (Nat.eq_of_beq_eq_true h4.2)
  have ct:(β.cD q ρ).ct t=ρ.ct t:=((Bind.uk Z hq ρ).ct t (by simpa using ht)).symm
  simp only[List.length_nil,Int.ofNat_zero,Int.add_zero]at h3
  unfold bC
  rw[h3,ct]
  simp[X.aX]
theorem akS {n:Nat} {β:Bind} {q:hh} (Z:β.ge n=true) (hq:kp n q=true) {aE:Nm->Nm} {ρ:aa} {p e:List X} (h:G6 n β q aE p e=true):aA ρ e=Aw.bu aE (aA (β.cD q ρ) p):=by
 unfold G6 at h
 split at h
 ·rename_i z m t
  have e1:aA (β.cD q ρ) [.tk z m t []]=(bC (β.cD q ρ) z m t).flatten:=by simp[aA,X.aX]
  rw[e1,lB aE _ (q' rb)]
  split at h
  ·simp only[Bool.and_eq_true]at h
   have e2:=Nat.eq_of_beq_eq_true h.1
   subst e2
   rw[Xl Z hq h.2]
   rfl
  ·simp only[Bool.and_eq_true,Bool.not_eq_true']at h
   obtain⟨A,E,h3,h4⟩:=h
   rw[Xl Z hq h4,cP A]
   have:bC ρ z (.lit 0) 0=[]:=rfl
   rw[this,List.nil_append,w7,Ai _ _ _ (by rw[X.f_];exact Nat.eq_of_beq_eq_true h3)]
 ·simp only[Bool.and_eq_true]at h
  rw[Xj Z h.2]
  have:aA (β.cD q ρ) p=aA (β.ap ρ) p:=by
   by_cases hr:b6 p=true
   ·unfold b6 at hr
    split at hr
    ·simp only[aA];unfold Bind.cD;rw[Yi]
    ·have:=h.1
     simp[X.re,X.yI]at this
    ·cases hr
   ·have hr:b6 p=false:=by simpa using hr
    rw[cP hr,cP hr]
    exact X.r_ _ _ p h.1
  rw[this]
def rf (k0 n:Nat) (β:Bind) (q:hh) (nm:List (Nm×Nm)) (S V:XS):Bool :=
  kp n q&&(β.ge n&&(Nat.ble k0 S.nx&&(B3 k0 nm&&(vq (eZ nm) (S.h.map (·.1)) &&
  (S.t.all (fun p=>X.yI (bY S.t p.1)&&G_ n β (eZ nm) S.nx (bY S.t p.1) (bY V.t p.1)) &&
   S.h.all (fun p=>match bh S.h p.1 with
    | some cs=>X.a4 (fun m=>Nat.blt m.1 S.nx) cs&&(Nat.blt p.1.1 S.nx&&(match bh V.h (eZ nm p.1)with
      | some D=>G6 n β q (eZ nm) cs D
      | none=>false))
    | none=>true))))))
theorem Cr {ac:Aw.Env} {k0 n:Nat} (hb:∀m,ac.c0.kn m->m.1<k0) {β:Bind} {q:hh} {nm:List (Nm×Nm)} {S V:XS} (h:rf k0 n β q nm S V=true) (ρ:aa):dF ac (V.I ρ) (S.I (β.cD q ρ)):=by
 simp only[rf,Bool.and_eq_true,Nat.ble_eq]at h
 obtain⟨hq,Z,u,Mi,qB,ht,W⟩:=h
 have key:∀m cs,ae (aO (β.cD q ρ) S.h) m=some cs->∃ds D,bh S.h m=some ds/\cs=aA (β.cD q ρ) ds/\X.a4 (fun m=>Nat.blt m.1 S.nx) ds=true/\m.1<S.nx/\bh V.h (eZ nm m)=some D/\G6 n β q (eZ nm) ds D=true:=fun m cs aI=>by
  rw[cG]at aI
  obtain⟨ds,hd,rfl⟩:=Option.map_eq_some_iff.1 aI
  have:=List.all_eq_true.1 W _ (sC _ _ _ hd)
  simp only[hd,Bool.and_eq_true,Nat.blt_eq]at this
  obtain⟨A,E,h3⟩:=this
  split at h3
  ·rename_i D G
   exact⟨ds,D,hd,rfl,A,E,G,h3⟩
  ·cases h3
 refine Ji (aK:=S.I (β.cD q ρ)) (eZ nm) hb (fun m hm=>Ou Mi hm) u (fun i => ?_) (fun m cs aI => ?_) (fun m m' hm a0 G => ?_)
 ·simp only[XS.I,jf]
  rcases Da S.t i with h | ⟨v,R⟩
  ·rw[h];exact .inl rfl
  ·have:=List.all_eq_true.1 ht _ R
   simp only[Bool.and_eq_true]at this
   obtain⟨hn,this⟩:=this
   simp only[G_]at this
   split at this
   ·rename_i hp;rw[hp];exact .inl rfl
   ·simp only[Bool.and_eq_true]at this
    refine .inr ⟨X.vN _ _ this.1,?_⟩
    rw[G' Z _ _ this.2]
    unfold Bind.cD
    rw[X.bL _ _ _ hn]
 ·obtain⟨ds,D,A,rfl,h3,h4,h5,h6⟩:=key m cs aI
  refine⟨X.vM _ _ h3,h4,?_⟩
  simp only[XS.I]
  rw[cG,h5,Option.map_some,akS Z hq h6]
 ·obtain⟨cs,aI⟩:=Option.isSome_iff_exists.1 hm
  obtain⟨bn,qy⟩:=Option.isSome_iff_exists.1 a0
  obtain⟨ds,_,A,_⟩:=key m cs aI
  obtain⟨sb,_,pa,_⟩:=key m' bn qy
  exact FP qB m (List.mem_map.2 ⟨_,sC _ _ _ A,rfl⟩) m' (List.mem_map.2 ⟨_,sC _ _ _ pa,rfl⟩) G
theorem arP {P:Program} {ρ:aa} {N:Nat} {body:Code} {ti:Nat->Option TI} {call:bB} {ms:List Nat} {bN:List bf} {fuel k0 n:Nat} {S S' lO:XS} {s:XS} (hm:P.follows .mixedOrders=true) (a_:eL.ok P ti)
  (aP:cS P ρ call) (lh:a1 P ρ N bN body) (d7:da N body=true) {aS:J} (u:J.ok ρ aS) (hd:S.I ρ=S'.I ρ) {ks:List Nat}
  (qJ:((ck ti call ms k0 bN fuel body aS S').map (dV ks)).aq ρ=some (.normal,s)) {β:Bind} {q:hh} {nm:List (Nm×Nm)} (a2:rf k0 n β q nm lO s=true):ea P N body k0 S lO ρ (β.cD q ρ):=by
 intro ac hE bI
 obtain⟨p,hq,G⟩:=T.je _ qJ
 rw[hd]
 have g:=jY (ac:=ac) hm a_ aP bI body aS _ p.1 p.2 u (by rw[hE];exact d7) (by rw[hE];exact lh) hq
 have q1:=congrArg Prod.fst G
 have q2:=congrArg Prod.snd G
 simp only at q1 q2
 refine dE (fun e' s' W=>⟨?_,?_⟩) g
 ·rw[W.1,show p.1=XE.normal from q1.symm]
 ·have i:=fp W.2 (zk ks ρ p)
  rw[<-q2]at i
  exact vn i (Cr bI a2 ρ)
end Go.Proofs.Xw
namespace Go.Proofs.Xw
open Go Go.Proofs.Aw
inductive DT where
 | leaf
 | hole (k:Nat)
 | br (c:BE) (a b:DT)
 | kT (k:Nat) (a b:DT)
abbrev Hyp:=List (BE×J)
def uc (aR:Hyp):Prop:=∀(p:BE×J),p∈aR->∀ρ:aa,p.1.I ρ=true->J.ok ρ p.2
def DT.ok (aR:Hyp) (jX:J->Bool):DT->J->Bool
 | .leaf,B=>jX B
 | .hole _,_=>true
 | .br c a b,B=>match red B c with
  | .lit true=>a.ok aR jX B
  | .lit false=>b.ok aR jX B
  | c=>a.ok aR jX (assume c true B)&&b.ok aR jX (assume c false B)
 | .kT k a b,B=>match aR[k]? with
  | some (c,fs)=>(match red B c with
   | .lit true=>a.ok aR jX (fs++B)
   | .lit false=>b.ok aR jX B
   | d=>a.ok aR jX (fs++assume d true B)&&b.ok aR jX (assume d false B))
  | none=>false
def DT.lj (aR:Hyp):DT->J->List (Nat×J)
 | .leaf,_=>[]
 | .hole k,B=>[(k,B)]
 | .br c a b,B=>match red B c with
  | .lit true=>a.lj aR B
  | .lit false=>b.lj aR B
  | c=>a.lj aR (assume c true B)++b.lj aR (assume c false B)
 | .kT k a b,B=>match aR[k]? with
  | some (c,fs)=>(match red B c with
   | .lit true=>a.lj aR (fs++B)
   | .lit false=>b.lj aR B
   | d=>a.lj aR (fs++assume d true B)++b.lj aR (assume d false B))
  | none=>[]
theorem dY {ρ:aa} {a b:J} (h:J.ok ρ a) (k:J.ok ρ b):J.ok ρ (a++b):=fun p hp=>by
 rcases List.mem_append.1 hp with hp | hp
 ·exact h p hp
 ·exact k p hp
theorem DT.rh {aR:Hyp} (hH:uc aR) {jX:J->Bool} {ρ:aa}:∀(d:DT) (B:J),d.ok aR jX B=true->J.ok ρ B->(∃aS,J.ok ρ aS/\jX aS=true)\/∃p∈d.lj aR B,J.ok ρ p.2
 | .leaf,B,h,u => .inl ⟨B,u,h⟩
 | .hole k,B,_,u => .inr ⟨(k,B),List.mem_cons_self,u⟩
 | .br c a b,B,h,u=>by
  have hr:=c9 u c
  simp only[DT.ok]at h
  simp only[DT.lj]
  split at h
  ·exact DT.rh hH a B h u
  ·exact DT.rh hH b B h u
  ·rw[Bool.and_eq_true]at h
   cases H:(red B c).I ρ with
   | true =>
    rcases DT.rh hH a _ h.1 (gn _ true B H u)with g | ⟨p,hp,g⟩
    ·exact .inl g
    ·exact .inr ⟨p,List.mem_append_left _ hp,g⟩
   | false =>
    rcases DT.rh hH b _ h.2 (gn _ false B H u)with g | ⟨p,hp,g⟩
    ·exact .inl g
    ·exact .inr ⟨p,List.mem_append_right _ hp,g⟩
 | .kT k a b,B,h,u=>by
  simp only[DT.ok]at h
  simp only[DT.lj]
  split at h
  ·rename_i c fs G
   have hr:=c9 u c
   have hm:=hH _ (List.mem_of_getElem? G) ρ
   split at h
   ·rename_i e
    rw[e]at hr
    exact DT.rh hH a _ h (dY (hm hr.symm) u)
   ·exact DT.rh hH b B h u
   ·rw[Bool.and_eq_true]at h
    cases H:(red B c).I ρ with
    | true =>
     rcases DT.rh hH a _ h.1 (dY (hm (by rw[<-hr];exact H)) (gn _ true B H u))with g | ⟨p,hp,g⟩
     ·exact .inl g
     ·exact .inr ⟨p,List.mem_append_left _ hp,g⟩
    | false =>
     rcases DT.rh hH b _ h.2 (gn _ false B H u)with g | ⟨p,hp,g⟩
     ·exact .inl g
     ·exact .inr ⟨p,List.mem_append_right _ hp,g⟩
  ·cases h
def Cj (B:J):X->X
 | .sc (.b e) => .sc (.b (fu B e))
 | .sc (.i k e) => .sc (.i k (nt B e))
 | x=>x
theorem OD {ρ:aa} {B:J} (u:J.ok ρ B) (x:X):(Cj B x).I ρ=x.I ρ:=by
 unfold Cj
 split
 ·simp only[X.I,Sc.I,oG u]
 ·simp only[X.I,Sc.I,rq u]
 ·rfl
def Cl (B:J):List X->List X
 | []=>[]
 | x::xs=>Cj B x::Cl B xs
theorem OF {ρ:aa} {B:J} (u:J.ok ρ B):∀l:List X,X.af ρ (Cl B l)=X.af ρ l
 | []=>rfl
 | x::xs=>by simp only[Cl,X.af,OD u x,OF u xs]
def GQ (B:J):List (List X)->List (List X)
 | []=>[]
 | x::xs=>Cl B x::GQ B xs
theorem WU {ρ:aa} {B:J} (u:J.ok ρ B):∀l:List (List X),X.aX ρ (GQ B l)=X.aX ρ l
 | []=>rfl
 | x::xs=>by simp only[GQ,X.aX,OF u x,WU u xs]
def lenOf:J->U->U
 | [],n=>n
 | (c,v)::r,n=>match c,v with
  | .eq a (.len L),true=>if a.beq n=true then .len L else lenOf r n
  | _,_=>lenOf r n
theorem BX {ρ:aa}:∀{B:J} (_:J.ok ρ B) (n:U),(lenOf B n).I ρ=n.I ρ
 | [],_,n=>rfl
 | (c,v)::r,u,n=>by
  have hr:J.ok ρ r:=fun p hp=>u p (List.mem_cons_of_mem _ hp)
  simp only[lenOf]
  split
  ·split
   ·rename_i a L hb
    have A:=u _ List.mem_cons_self
    rw[<-U.beq_eq _ _ hb]
    simp only[BE.I,beq_iff_eq]at A
    exact A.symm
   ·exact BX hr n
  ·exact BX hr n
def GV (B:J):X->X
 | .rl z n l f=>match red B (mkEq n (.lit 1))with
  | .lit true => .rl z (.lit 1) l f
  | _=>match red B (mkEq n (.lit 0))with
   | .lit true => .ro z [] f
   | _ => .rl z (lenOf B n) l f
 | .slv m z o n w => .slv m z o (lenOf B n) w
 | x=>Cj B x
theorem WX {ρ:aa} {B:J} (u:J.ok ρ B) (x:X):(GV B x).I ρ=x.I ρ:=by
 unfold GV
 split
 ·rename_i z n l f
  split
  ·rename_i e
   have hr:=c9 u (mkEq n (.lit 1))
   rw[e,eQ]at hr
   have hr:n.I ρ=1:=eq_of_beq (show(n.I ρ==1)=true from hr.symm)
   simp only[X.I,aV,hr,U.I]
  ·split
   ·rename_i e
    have hr:=c9 u (mkEq n (.lit 0))
    rw[e,eQ]at hr
    have hr:n.I ρ=0:=eq_of_beq (show(n.I ρ==0)=true from hr.symm)
    have e0:aV ρ n l=[]:=by unfold aV;rw[hr];rfl
    simp only[X.I,e0];rfl
   ·simp only[X.I,aV,BX u]
 ·simp only[X.I,BX u]
 ·exact OD u _
def Cm (B:J):List X->List X
 | []=>[]
 | x::xs=>GV B x::Cm B xs
theorem WY {ρ:aa} {B:J} (u:J.ok ρ B):∀l:List X,X.af ρ (Cm B l)=X.af ρ l
 | []=>rfl
 | x::xs=>by simp only[Cm,X.af,WX u x,WY u xs]
def OH (B:J) (z:Nat):X->X
 | .ro z' D _=>match D with
  | [] => .ro z [] false
  | D => .ro z' (GQ B D) false
 | .rl z' n l _=>GV B (.rl z' n l false)
 | .k v=>if zu v (.slice none 0 0)=true then .ro z [] false else .k v
 | x=>Cj B x
theorem ai7 {ρ:aa} {B:J} (u:J.ok ρ B) (z:Nat) (x:X):bT ((OH B z x).I ρ) (x.I ρ):=by
 unfold OH
 split
 ·split
  ·intro C Y hu
   obtain⟨ab,cap,A,E,_,_⟩:=hv.1 hu
   exact hv.2 ⟨ab,cap,A,E,fun h=>(nomatch h),fun h=>absurd rfl h⟩
  ·intro C Y hu
   simp only[X.I]at hu ⊢
   rw[WU u]
   exact HP (f':=false) (fun h=>(nomatch h)) hu
 ·intro C Y hu
  rw[WX u]
  simp only[X.I]at hu ⊢
  exact HP (f':=false) (fun h=>(nomatch h)) hu
 ·split
  ·rename_i R
   rw[QQ R]
   intro C Y hu
   have hu:Y = .slice none 0 0:=hu
   exact hv.2 ⟨none,0,hu,Nat.le_refl _,fun h=>(nomatch h),fun h=>absurd rfl h⟩
  ·exact bT.refl _
 ·exact bT.of_eq (OD u _)
def ir (B:J):List Nat->List X->List X
 | z::zs,x::xs=>OH B z x::ir B zs xs
 | _,xs=>xs
theorem bo.cons {a b:AV} {x y:List AV} (h:bT a b) (k:bo x y):bo (a::x) (b::y):=by
 refine⟨by simp[k.1],fun j v O => ?_⟩
 cases j with
 | zero=>simp only[List.getElem?_cons_zero,Option.some.injEq]at O;subst O;exact⟨b,rfl,h⟩
 | succ j=>exact k.2 j v (by simpa using O)
theorem bo.app {a b x y:List AV} (h:bo a b) (k:bo x y):bo (a++x) (b++y):=by
 refine⟨by simp[h.1,k.1],fun j v O => ?_⟩
 rw[List.getElem?_append]at O ⊢
 rw[<-h.1]
 split at O
 ·rename_i H;rw[if_pos H];exact h.2 j v O
 ·rename_i H;rw[if_neg H];exact k.2 _ v O
theorem yJ {ρ:aa} {B:J} (u:J.ok ρ B):∀(zs:List Nat) (l:List X),bo (X.af ρ (ir B zs l)) (X.af ρ l)
 | [],_=>bo.refl _
 | _::_,[]=>bo.refl _
 | z::zs,x::xs=>bo.cons (ai7 u z x) (yJ u zs xs)
def GU (B:J) (nz:List Nat):List (List X)->List (List X)
 | []=>[]
 | e::D=>ir B nz e::GU B nz D
theorem WW {ρ:aa} {B:J} (u:J.ok ρ B) (nz:List Nat):∀(D:List (List X)),bo (X.aX ρ (GU B nz D)).flatten (X.aX ρ D).flatten
 | []=>bo.refl _
 | e::D=>by
  simp only[GU,X.aX,List.flatten_cons]
  exact bo.app (yJ u nz e) (WW u nz D)
def GS (B:J) (nz:List Nat) (cs:List X):List X:=match cs with
 | [.tk z m t D]=>[.tk z m t (GU B nz D)]
 | [.rows z n l]=>[.rows z (lenOf B n) l]
 | cs=>if b6 (Cm B cs)=true then cs else if(Nat.beq cs.length nz.length && !b6 (ir B nz cs))=true then ir B nz cs else Cm B cs
theorem ai6 {ρ:aa} {B:J} (u:J.ok ρ B) (nz:List Nat) (cs:List X):bo (aA ρ (GS B nz cs)) (aA ρ cs):=by
 unfold GS
 split
 ·simp only[aA,List.flatten_append]
  exact bo.app (bo.refl _) (WW u nz _)
 ·simp only[aA,aV,BX u]
  exact bo.refl _
 ·rename_i n1 n2
  have hr:b6 cs=false:=by
   cases hi:b6 cs with
   | false=>rfl
   | true =>
    unfold b6 at hi
    split at hi
    ·exact absurd rfl (n2 _ _ _)
    ·exact absurd rfl (n1 _ _ _ _)
    ·cases hi
  split
  ·exact bo.refl _
  ·rename_i hz
   split
   ·rename_i H
    simp only[Bool.and_eq_true,Bool.not_eq_true']at H
    rw[cP H.2,cP hr]
    exact yJ u nz cs
   ·rw[cP (by simpa using hz),cP hr,WY u]
    exact bo.refl _
def GR (B:J) (nz:List Nat):au->au
 | []=>[]
 | (m,cs)::r=>(m,GS B nz cs)::GR B nz r
theorem WV {B:J} {nz:List Nat} {m:Nm}:∀{h:au},bh (GR B nz h) m=(bh h m).map (GS B nz)
 | []=>rfl
 | (k,cs)::r=>by
  simp only[GR,bh]
  split
  ·rfl
  ·exact WV
def XS.gB (B:J) (nz:List Nat) (s:XS):XS:=⟨s.t,GR B nz s.h,s.nx⟩
theorem XS.WZ {ρ:aa} {B:J} (u:J.ok ρ B) (nz:List Nat) (s:XS):fX ((s.gB B nz).I ρ) (s.I ρ):=by
 refine⟨fun i=>bT.refl _,fun m cs aI => ?_,Nat.le_refl _⟩
 simp only[XS.I,XS.gB,cG,WV]at aI ⊢
 cases Z:bh s.h m with
 | none=>rw[Z]at aI;cases aI
 | some ds =>
  rw[Z]at aI
  simp only[Option.map_some,Option.some.injEq]at aI ⊢
  subst aI
  exact⟨_,rfl,ai6 u nz ds⟩
def Dq:List X->List X->List X
 | p::ps,x::xs=>(match p with | .top => .top | _=>x)::Dq ps xs
 | _,xs=>xs
theorem aaw (ρ:aa):∀(ps l:List X),bo (X.af ρ (Dq ps l)) (X.af ρ l)
 | [],_=>bo.refl _
 | _::_,[]=>bo.refl _
 | p::ps,x::xs=>by
  simp only[Dq,X.af]
  refine bo.cons ?_ (aaw ρ ps xs)
  split
  ·exact bT.top _
  ·exact bT.refl _
def O3 (nm:List (Nm×Nm)) (m:Nm):au->List X
 | []=>[]
 | (k,cs)::r=>if cN (eZ nm k) m=true then cs else O3 nm m r
def IP (ps cs:List X):List X:=if(b6 cs||b6 (Dq ps cs))=true then cs else Dq ps cs
theorem auc (ρ:aa) (ps cs:List X):bo (aA ρ (IP ps cs)) (aA ρ cs):=by
 unfold IP
 split
 ·exact bo.refl _
 ·rename_i h
  simp only[Bool.or_eq_true,not_or,Bool.not_eq_true]at h
  rw[cP h.1,cP h.2]
  exact aaw ρ ps cs
def IN (nm:List (Nm×Nm)) (S:au):au->au
 | []=>[]
 | (m,cs)::r=>(m,IP (O3 nm m S) cs)::IN nm S r
theorem aav {nm:List (Nm×Nm)} {S:au} {m:Nm}:∀{h:au},bh (IN nm S h) m=(bh h m).map (IP (O3 nm m S))
 | []=>rfl
 | (k,cs)::r=>by
  simp only[IN,bh]
  split
  ·rename_i e;rw[eu e];rfl
  ·exact aav
def XS.zA (nm:List (Nm×Nm)) (S:au) (s:XS):XS:=⟨s.t,IN nm S s.h,s.nx⟩
theorem XS.Q1 (ρ:aa) (nm:List (Nm×Nm)) (S:au) (s:XS):fX ((s.zA nm S).I ρ) (s.I ρ):=by
 refine⟨fun i=>bT.refl _,fun m cs aI => ?_,Nat.le_refl _⟩
 simp only[XS.I,XS.zA,cG,aav]at aI ⊢
 cases Z:bh s.h m with
 | none=>rw[Z]at aI;cases aI
 | some ds =>
  rw[Z]at aI
  simp only[Option.map_some,Option.some.injEq]at aI ⊢
  subst aI
  exact⟨_,rfl,auc ρ _ ds⟩
def p0 (nm:List (Nm×Nm)) (s:au):au->hh
 | []=>[]
 | (j,cs)::r=>match cs with
  | [.tk z _ t []]=>(match bh s (eZ nm j)with
   | some [.tk _ m' t' D]=>(t,m',t',D)::p0 nm s r
   | some ds=>(t,.lit 0,0,nW z (ds.length / z) ds)::p0 nm s r
   | none=>p0 nm s r)
  | _=>p0 nm s r
def tO (q:hh):au->List (Nat×U×RL)
 | []=>[]
 | (_,cs)::r=>match cs with
  | [.tk _ (.len L) t []]=>(match be t q with
   | some (m',_,D)=>(L,mkAdd m' (.lit D.length),.one [])::tO q r
   | none=>tO q r)
  | _=>tO q r
def ain:X->X->List (Nat×U×RL)->List (Nat×U×RL)
 | .rl _ (.len _) (.var L _) _,.rl _ n l _,r=>(L,n,l)::r
 | .rl _ (.len _) (.var L _) _,.ro _ D _,r=>(match oQ D with
  | some l=>(L,.lit D.length,l)::r
  | none=>r)
 | _,_,r=>r
def Wp:List X->List X->List (Nat×U×RL)->List (Nat×U×RL)
 | x::xs,y::ys,r=>ain x y (Wp xs ys r)
 | _,_,r=>r
def N8 (nm:List (Nm×Nm)) (s:au):au->List (Nat×U×RL)
 | []=>[]
 | (j,cs)::r=>match bh s (eZ nm j)with
  | some ds=>Wp cs ds (N8 nm s r)
  | none=>N8 nm s r
def Bind.trim (n:Nat) (β:Bind):Bind :=
  ⟨β.i.filter fun p=>Nat.ble n p.1 && !p.2.beq (.var p.1),β.b.filter fun p=>Nat.ble n p.1 && !p.2.beq (.var p.1),β.s.filter fun p=>Nat.ble n p.1 && !p.2.beq (.var p.1),
   β.r.filter fun p=>Nat.ble n p.1 && !(p.2.1.beq (.len p.1)&&(match p.2.2 with | .var l _=>Nat.beq l p.1 | .one []=>true | _=>false))⟩
def JN (n:Nat) (nm:List (Nm×Nm)) (q:hh) (S s:XS):Bind :=
 let β:=adb nm S s
 (⟨β.i,β.b,β.s,tO q S.h++(N8 nm s.h S.h++β.r)⟩:Bind).trim n
inductive Tk where
 | f (k:Kd)
 | r (z:Nat) (ks:List Kd)
def Tk.uu:Tk->AV->Prop
 | .f k,v=>jT [k] [v]
 | .r z ks,v=>∃D,v = .ro z D false/\D.length<=1000/\∀e∈D,jT ks e
def tyE (ks:List Kd) (D:List (List X)):Bool:=D.all fun e=>match oS e with
 | some s=>ry ks s
 | none=>false
def ID (B:J):Tk->X->Bool
 | .f k,.sc s=>PY k s
 | .r z ks,.ro z' D full => !full&&(Nat.beq z z'&&(Nat.ble D.length 1000&&tyE ks D))
 | .r z ks,.rl z' n l full => !full&&(Nat.beq z z'&&(nu B (.lt (.lit 1000) n,false)&&l.kd ks))
 | _,_=>false
theorem ZV {ρ:aa} {B:J} (u:J.ok ρ B) {t:Tk} {x:X} (h:ID B t x=true):t.uu (x.I ρ):=by
 unfold ID at h
 split at h
 ·exact CS (ρ:=ρ) (show ry [_] [_]=true by simp only[ry,h,Bool.and_self])
 ·rename_i z ks z' D full
  simp only[Bool.and_eq_true,Bool.not_eq_true']at h
  obtain⟨h0,h⟩:=h
  have A:=Nat.eq_of_beq_eq_true h.1
  subst h0 A
  obtain⟨_,E,h⟩:=h
  refine⟨_,rfl,by rw[X.eg,List.length_map];exact Nat.le_of_ble_eq_true E,fun e G => ?_⟩
  rw[X.eg]at G
  obtain⟨d,hd,rfl⟩:=List.mem_map.1 G
  have:=List.all_eq_true.1 h d hd
  split at this
  ·rename_i sc hs
   rw[<-zq (ρ:=ρ) hs]
   exact CS this
  ·cases this
 ·rename_i z ks z' n l full
  simp only[Bool.and_eq_true,Bool.not_eq_true']at h
  obtain⟨h0,h⟩:=h
  have A:=Nat.eq_of_beq_eq_true h.1
  subst h0 A
  obtain⟨_,E,h⟩:=h
  have E:¬(1000:Int)<n.I ρ:=of_decide_eq_false (rz u E)
  refine⟨_,rfl,by rw[pQ];omega,fun e G => ?_⟩
  obtain⟨j,_,rfl⟩:=List.mem_map.1 G
  exact RL.qR h
 ·cases h
def oY (B:J):List Tk->List X->Bool
 | [],_=>true
 | t::ts,x::xs=>ID B t x&&oY B ts xs
 | _,_=>false
theorem QJ {B:J}:∀{kt:List Tk} {e:List X} {k:Nat} {t:Tk},oY B kt e=true->kt[k]? = some t->∃x,e[k]? = some x/\ID B t x=true
 | [],_,_,_,_,h=>by simp at h
 | _::_,[],_,_,h,_=>by cases h
 | t::ts,x::xs,0,t',h,u=>by
  simp only[oY,Bool.and_eq_true]at h
  simp only[List.getElem?_cons_zero,Option.some.injEq]at u
  subst u
  exact⟨x,rfl,h.1⟩
 | t::ts,x::xs,k+1,t',h,u=>by
  simp only[oY,Bool.and_eq_true]at h
  rw[List.getElem?_cons_succ]at u ⊢
  exact QJ h.2 u
def dX (l:Nat) (kt:List Tk) (ρ:aa):Prop:=∀(j k:Nat) (t:Tk),j<ρ.len l->kt[k]? = some t->t.uu (ρ.ct l k j).1
def QI (B:J) (l z:Nat) (kt:List Tk) (β:Bind) (q:hh):Bool:=match be l q with
 | some (m,t0,D)=>m.nn&&((m.beq (.lit 0)||(Nat.beq t0 l&&m.beq (.len l)))&&(((match be l β.r with
  | some (n,_)=>n
  | none => .len l).beq (mkAdd m (.lit D.length)))&&(OR z D&&D.all (oY B kt))))
 | none=>(be l β.r).isNone
theorem ZU {B:J} {l z:Nat} {kt:List Tk} {β:Bind} {q:hh} {ρ:aa} (u:J.ok ρ B) (h:QI B l z kt β q=true) (ht:dX l kt ρ):dX l kt (β.cD q ρ):=by
 unfold QI at h
 intro j k t O sE
 have hlen:(β.cD q ρ).len l=match be l β.r with | some (n,_)=>(n.I ρ).toNat | none=>ρ.len l:=rfl
 have hct:(β.cD q ρ).ct l k j=pZ q ρ l k j:=rfl
 rw[hct]
 split at h
 ·rename_i m t0 D hq
  simp only[Bool.and_eq_true,Bool.or_eq_true]at h
  obtain⟨A,E,h3,h4,h5⟩:=h
  have m0:=U.kB ρ m A
  have h3:=U.beq_eq _ _ h3
  have hL:(β.cD q ρ).len l=(m.I ρ).toNat+D.length:=by
   rw[hlen]
   cases hr:be l β.r with
   | some v =>
    rw[hr]at h3
    have:=congrArg (U.I ρ) h3
    simp only[fe,U.I]at this
    simp only
    omega
   | none =>
    rw[hr]at h3
    have:=congrArg (U.I ρ) h3
    simp only[fe,U.I]at this
    simp only
    omega
  unfold pZ
  rw[hq]
  show t.uu (zn ρ m t0 D k j).1
  unfold zn
  split
  ·rename_i H
   rcases E with E | E
   ·have:=U.beq_eq _ _ E
    subst this
    simp[U.I]at H
   ·have e1:=Nat.eq_of_beq_eq_true E.1
    have e2:=U.beq_eq _ _ E.2
    subst e1 e2
    exact ht j k t (by simpa [U.I]using H) sE
  ·rename_i H
   obtain⟨e,G⟩:∃e,D[j-(m.I ρ).toNat]? = some e:=⟨_,List.getElem?_eq_getElem (by omega)⟩
   have ho:=List.all_eq_true.1 h4 e (List.mem_of_getElem? G)
   simp only[Bool.and_eq_true]at ho
   obtain⟨x,hx,BJ⟩:=QJ (List.all_eq_true.1 h5 e (List.mem_of_getElem? G)) sE
   have R:(X.af ρ e)[k]? = some (x.I ρ):=by rw[X.r9,hx];rfl
   rw[X.w_,G,Option.map_some,Option.bind_some,R,Option.getD_some,Ix (pC (X.pE ρ e ho.2.1) R) (X.one_den ρ x (List.all_eq_true.1 ho.2.2 x (List.mem_of_getElem? hx)))]
   exact ZV u BJ
 ·rename_i hq
  unfold pZ
  rw[hq]
  refine ht j k t ?_ sE
  rw[hlen,Option.isNone_iff_eq_none.1 h]at O
  exact O
def Ov (S s:XS):List (Nm×Nm):=let a:=WK s.t S.t;let b:=Ot S.h s.h a [];a++(b++Ot S.h s.h b [])
structure Alt where
 fr:Nat
 ki:List Nat
 qT:List Nat
 i:List (Nat×U)
 r:List (Nat×U×RL)
 fs:J:=[]
structure dm where
 S:XS
 bS:J
 di:List Alt
def Bind.keeps (β:Bind) (ki qT:List Nat):Bool:=ki.all (fun k=>(be k β.i).isNone)&&qT.all (fun k=>(be k β.r).isNone)
def Alt.fits (β:Bind) (a:Alt):Bool:=β.keeps a.ki a.qT&&(a.i.all (fun p=>match be p.1 β.i with | some e=>e.beq p.2 | none=>false)&&a.r.all (fun p=>match be p.1 β.r with | some (n,l)=>n.beq p.2.1&&l.beq p.2.2 | none=>false))
def E4 (k0 n aB:Nat) (nz:List Nat) (kt:Nat×List Tk) (i:Nat) (C:dm) (B:J) (s0:XS):Bool :=
 let s1:=s0.gB B nz
 let nm:=Ov C.S s1
 let s:=s1.zA nm C.S.h
 let q:=p0 nm s.h C.S.h
 let β:=JN n nm q C.S s
 rf k0 n β q nm C.S s&&((kt.2.isEmpty||QI B kt.1 kt.2.length kt.2 β q)&&(C.bS.all (H' β B)&&(M2 aB β&&(C.di.isEmpty||C.di.any fun a=>Nat.beq a.fr i&&(a.fs.all (nu B)&&a.fits β)))))
def AR (k0 n aB:Nat) (nz:List Nat) (kt:Nat×List Tk) (i:Nat) (B:J) (s:XS):List dm->Nat->Bool
 | [],_=>false
 | C::cs,j=>E4 k0 n aB nz kt i C B s||AR k0 n aB nz kt i B s cs (j+1)
theorem Lr {k0 n aB:Nat} {nz:List Nat} {kt:Nat×List Tk} {i:Nat} {B:J} {s:XS}:∀{cs:List dm} {a:Nat},AR k0 n aB nz kt i B s cs a=true->∃(j:Nat) (C:dm),cs[j]? = some C/\E4 k0 n aB nz kt i C B s=true
 | [],_,h=>by cases h
 | C::cs,a,h=>by
  simp only[AR,Bool.or_eq_true]at h
  rcases h with h | h
  ·exact⟨0,C,rfl,h⟩
  ·obtain⟨j,bM,A,E⟩:=Lr h
   exact⟨j+1,bM,A,E⟩
def JK:XE->XE->Bool
 | .normal,.normal=>true
 | .exit a,.exit b=>Nat.beq a b
 | .ret,.ret=>true
 | _,_=>false
theorem Sa {a b:XE} (h:JK a b=true):a=b:=by
 cases a<;>cases b<;>first | rfl | (cases h;done) | skip
 rw[Nat.eq_of_beq_eq_true h]
def n5 (S s:XS):Bool:=S.t.all (fun p=>(match p.2 with | .top=>true | _=>(bY S.t p.1).beq (bY s.t p.1)))&&(S.h.all (fun q=>match bh S.h q.1,bh s.h q.1 with | some a,some b=>X.fh a b | _,_=>false)&&Nat.ble s.nx S.nx)
theorem aef {S s:XS} (h:n5 S s=true) (hu:∀i,bY S.t i = .top\/∃v,(i,v)∈S.t/\bY S.t i=v) (ρ:aa):fX (S.I ρ) (s.I ρ):=by
 simp only[n5,Bool.and_eq_true,List.all_eq_true]at h
 obtain⟨A,E,h3⟩:=h
 refine⟨fun i => ?_,fun m cs aI => ?_,Nat.le_of_ble_eq_true h3⟩
 ·simp only[XS.I,jf]
  rcases hu i with e | ⟨v,R,e⟩
  ·rw[e];exact bT.top _
  ·have:=A _ R
   simp only at this
   split at this
   ·rw[e];exact bT.top _
   ·rw[X.beq_eq _ _ this];exact bT.refl _
 ·simp only[XS.I,cG]at aI ⊢
  cases Z:bh S.h m with
  | none=>rw[Z]at aI;cases aI
  | some ds =>
   rw[Z]at aI
   simp only[Option.map_some,Option.some.injEq]at aI
   subst aI
   have:=E _ (mc _ _ _ Z)
   simp only[Z]at this
   split at this
   ·rename_i a b e1 e2
    cases e1
    rw[e2,X.gO _ _ this]
    exact⟨_,rfl,bo.refl _⟩
   ·cases this
theorem ZA:∀(t:ba) (i:Nat),bY t i = .top\/∃v,(i,v)∈t/\bY t i=v
 | [],i => .inl rfl
 | (j,v)::l,i=>by
  simp only[bY]
  split
  ·rename_i h;rw[Nat.eq_of_beq_eq_true h];exact .inr ⟨v,List.mem_cons_self,rfl⟩
  ·rcases ZA l i with h | ⟨w,hw,h⟩
   ·exact .inl h
   ·exact .inr ⟨w,List.mem_cons_of_mem _ hw,h⟩
def dC (k0 n aB:Nat) (nz:List Nat) (kt:Nat×List Tk) (i:Nat) (cs:List dm) (S:XS) (xe:XE):J->T (XE×XS)->Bool
 | B,.ret (.normal,s)=>AR k0 n aB nz kt i B s cs 0
 | _,.ret (e,s)=>JK e xe&&(!JK e .normal&&n5 S s)
 | B,.br c x y=>match red B c with
  | .lit true=>dC k0 n aB nz kt i cs S xe B x
  | .lit false=>dC k0 n aB nz kt i cs S xe B y
  | _=>dC k0 n aB nz kt i cs S xe (assume c true B) x&&dC k0 n aB nz kt i cs S xe (assume c false B) y
 | B,.cL c x=>match red B c with
  | .lit true=>dC k0 n aB nz kt i cs S xe B x
  | _=>false
 | _,.fail _=>false
theorem vV {ρ:aa} {k0 n aB:Nat} {nz:List Nat} {kt:Nat×List Tk} {i:Nat} {cs:List dm} {S:XS} {xe:XE}:∀(t:T (XE×XS)) (B:J),dC k0 n aB nz kt i cs S xe B t=true->J.ok ρ B->∃e s aS,t.aq ρ=some (e,s)/\J.ok ρ aS /\
  ((e = .normal/\AR k0 n aB nz kt i aS s cs 0=true)\/(e=xe/\e ≠ .normal/\n5 S s=true))
 | .ret (.normal,s),B,h,u=>⟨_,s,B,rfl,u,.inl ⟨rfl,h⟩⟩
 | .ret (.exit j,s),B,h,u=>by
  simp only[dC,Bool.and_eq_true]at h
  exact⟨_,s,B,rfl,u,.inr ⟨Sa h.1,(fun h=>by cases h),h.2.2⟩⟩
 | .ret (.ret,s),B,h,u=>by
  simp only[dC,Bool.and_eq_true]at h
  exact⟨_,s,B,rfl,u,.inr ⟨Sa h.1,(fun h=>by cases h),h.2.2⟩⟩
 | .br c x y,B,h,u=>by
  have hr:=c9 u c
  simp only[dC]at h
  split at h
  ·rename_i e
   rw[e]at hr
   have hr:c.I ρ=true:=hr.symm
   obtain⟨e',s,aS,A,E⟩:=vV x B h u
   exact⟨e',s,aS,by simp only[T.aq,hr,if_true];exact A,E⟩
  ·rename_i e
   rw[e]at hr
   have hr:c.I ρ=false:=hr.symm
   obtain⟨e',s,aS,A,E⟩:=vV y B h u
   exact⟨e',s,aS,by simp only[T.aq,hr,Bool.false_eq_true,if_false];exact A,E⟩
  ·rw[Bool.and_eq_true]at h
   cases H:c.I ρ with
   | true =>
    obtain⟨e',s,aS,A,E⟩:=vV x _ h.1 (gn c true B H u)
    exact⟨e',s,aS,by simp only[T.aq,H,if_true];exact A,E⟩
   | false =>
    obtain⟨e',s,aS,A,E⟩:=vV y _ h.2 (gn c false B H u)
    exact⟨e',s,aS,by simp only[T.aq,H,Bool.false_eq_true,if_false];exact A,E⟩
 | .cL c x,B,h,u=>by
  have hr:=c9 u c
  simp only[dC]at h
  split at h
  ·rename_i e
   rw[e]at hr
   have hr:c.I ρ=true:=hr.symm
   obtain⟨e',s,aS,A,E⟩:=vV x B h u
   exact⟨e',s,aS,by simp only[T.aq,hr,if_true];exact A,E⟩
  ·cases h
 | .fail _,_,h,_=>by cases h
def RG (ki qT:List Nat) (ρ F:aa):Prop:=(∀k∈ki,F.i k=ρ.i k)/\∀k∈qT,F.len k=ρ.len k/\F.ci k=ρ.ci k/\F.cb k=ρ.cb k/\F.cs k=ρ.cs k
theorem ahc {β:Bind} {q:hh} {ki qT:List Nat} (h:β.keeps ki qT=true) (ρ:aa):RG ki qT ρ (β.cD q ρ):=by
 simp only[Bind.keeps,Bool.and_eq_true,List.all_eq_true,Option.isNone_iff_eq_none]at h
 refine⟨fun k u => ?_,fun k u=>⟨?_,?_,?_,?_⟩⟩
 ·show(match be k β.i with | some e=>e.I ρ | none=>ρ.i k)=_
  rw[h.1 k u]
 ·show(match be k β.r with | some (n,_)=>(n.I ρ).toNat | none=>ρ.len k)=_
  rw[h.2 k u]
 ·funext a b
  show(match be k β.r with | some (_,r)=>aH (r.row ρ b)[a]? | none=>ρ.ci k a b)=_
  rw[h.2 k u]
 ·funext a b
  show(match be k β.r with | some (_,r)=>dK (r.row ρ b)[a]? | none=>ρ.cb k a b)=_
  rw[h.2 k u]
 ·funext a b
  show(match be k β.r with | some (_,r)=>cellS (r.row ρ b)[a]? | none=>ρ.cs k a b)=_
  rw[h.2 k u]
def gI (a:Alt) (ρ F:aa):Prop:=J.ok ρ a.fs/\RG a.ki a.qT ρ F/\(∀p∈a.i,F.i p.1=p.2.I ρ) /\
 ∀p∈a.r,F.len p.1=(p.2.1.I ρ).toNat/\(∀(k j:Nat),F.ci p.1 k j=aH (p.2.2.row ρ j)[k]?)/\(∀(k j:Nat),F.cb p.1 k j=dK (p.2.2.row ρ j)[k]?)/\∀(k j:Nat),F.cs p.1 k j=cellS (p.2.2.row ρ j)[k]?
theorem Alt.T2 {β:Bind} {q:hh} {a:Alt} {B:J} {ρ:aa} (u:J.ok ρ B) (hf:(a.fs.all (nu B))=true) (h:a.fits β=true):gI a ρ (β.cD q ρ):=by
 simp only[Alt.fits,Bool.and_eq_true,List.all_eq_true]at h
 obtain⟨A,E,h3⟩:=h
 refine⟨fun p hp=>rz u (List.all_eq_true.1 hf p hp),ahc A ρ,fun p hp => ?_,fun p hp => ?_⟩
 ·have:=E p hp
  split at this
  ·rename_i e G
   have:=U.beq_eq _ _ this
   subst this
   show(match be p.1 β.i with | some e=>e.I ρ | none=>ρ.i p.1)=_
   rw[G]
  ·cases this
 ·have:=h3 p hp
  split at this
  ·rename_i n l G
   rw[Bool.and_eq_true]at this
   have e1:=U.beq_eq _ _ this.1
   have e2:=RL.beq_eq this.2
   subst e1 e2
   refine⟨?_,fun k j => ?_,fun k j => ?_,fun k j => ?_⟩
   ·show(match be p.1 β.r with | some (n,_)=>(n.I ρ).toNat | none=>ρ.len p.1)=_
    rw[G]
   ·show(match be p.1 β.r with | some (_,r)=>aH (r.row ρ j)[k]? | none=>ρ.ci p.1 k j)=_
    rw[G]
   ·show(match be p.1 β.r with | some (_,r)=>dK (r.row ρ j)[k]? | none=>ρ.cb p.1 k j)=_
    rw[G]
   ·show(match be p.1 β.r with | some (_,r)=>cellS (r.row ρ j)[k]? | none=>ρ.cs p.1 k j)=_
    rw[G]
  ·cases this
theorem Y7 {β:Bind} {q:hh} {ρ:aa} {B bS:J} (u:J.ok ρ B) (h:bS.all (H' β B)=true):J.ok (β.cD q ρ) bS:=fun p hp=>by
 have:=arx u h p hp
 unfold Bind.cD
 rw[BE.bL]
 exact this
theorem gD {P:Program} {ρ:aa} {N:Nat} {body:Code} {ti:Nat->Option TI} {call:bB} {ms:List Nat} {bN:List bf} {fuel k0 n aB:Nat} {nz:List Nat} {kt:Nat×List Tk} {i:Nat} {cs:List dm} {S:XS} {xe:XE} {B:J} (hm:P.follows .mixedOrders=true) (a_:eL.ok P ti)
  (aP:cS P ρ call) (lh:a1 P ρ N bN body) (d7:da N body=true) (u:J.ok ρ B) {ks:List Nat}
  {So:XS} (bD:dC k0 n aB nz kt i cs So xe B ((ck ti call ms k0 bN fuel body B S).map (dV ks))=true) :
  jj P N body k0 S (.ret (xe,So)) ρ\/∃(j:Nat) (C:dm) (F:aa),cs[j]? = some C/\ea P N body k0 S C.S ρ F/\J.ok F C.bS/\F.i aB=IntKind.i64.wrap (ρ.i aB+1)/\az n ρ F/\(dX kt.1 kt.2 ρ->dX kt.1 kt.2 F)/\(C.di=[]\/∃a∈C.di,a.fr=i/\gI a ρ F):=by
 obtain⟨e,s,aS,A,E,h3⟩:=vV _ _ bD u
 obtain⟨p,hq,G⟩:=T.je _ A
 have q1:e=p.1:=congrArg Prod.fst G
 have q2:s=(dV ks p).2:=congrArg Prod.snd G
 rcases h3 with⟨hn,hf⟩ | ⟨hx,hn,hf⟩
 ·right
  obtain⟨j,C,g1,g2⟩:=Lr hf
  simp only[E4,Bool.and_eq_true]at g2
  obtain⟨g2,gt,g3,g4,g5⟩:=g2
  generalize FF:Ov C.S (s.gB aS nz)=nm at g2 gt g3 g4 g5
  generalize kj:(s.gB aS nz).zA nm C.S.h=s1 at g2 gt g3 g4 g5
  generalize agz:p0 nm s1.h C.S.h=DH at g2 gt g3 g4 g5
  generalize agw:JN n nm DH C.S s1=β at g2 gt g3 g4 g5
  have Z:=g2
  simp only[rf,Bool.and_eq_true]at Z
  refine⟨j,C,β.cD DH ρ,g1,fun ac hE bI => ?_,Y7 E g3,?_,Bind.uk Z.2.1 Z.1 ρ,fun ht => ?_,?_⟩
  ·have g:=jY (ac:=ac) hm a_ aP bI body B _ p.1 p.2 u (by rw[hE];exact d7) (by rw[hE];exact lh) hq
   refine dE (fun e' s' W=>⟨?_,?_⟩) g
   ·rw[W.1,<-q1,hn]
   ·have i:=fp W.2 (zk ks ρ p)
    rw[<-q2]at i
    have l:=(XS.Q1 ρ nm C.S.h (s.gB aS nz)).trans (XS.WZ E nz s)
    rw[kj]at l
    exact vn (fp i l) (Cr bI g2 ρ)
  ·unfold M2 at g4
   split at g4
   ·rename_i e' hI
    have:=U.beq_eq _ _ g4
    subst this
    show(match be aB β.i with | some e=>e.I ρ | none=>ρ.i aB)=_
    rw[hI]
    simp only[U.I,a7.I]
   ·cases g4
  ·rw[Bool.or_eq_true]at gt
   rcases gt with gt | gt
   ·have:=List.isEmpty_iff.1 gt
    intro j k t _ aM
    rw[this]at aM
    simp at aM
   ·exact ZU E gt ht
  ·rw[Bool.or_eq_true]at g5
   rcases g5 with g5 | g5
   ·left;exact List.isEmpty_iff.1 g5
   ·right
    obtain⟨a,ha,g6⟩:=List.any_eq_true.1 g5
    simp only[Bool.and_eq_true]at g6
    exact⟨a,ha,Nat.eq_of_beq_eq_true g6.1,Alt.T2 E g6.2.1 g6.2.2⟩
 ·left
  intro ac hE bI
  have g:=jY (ac:=ac) hm a_ aP bI body B _ p.1 p.2 u (by rw[hE];exact d7) (by rw[hE];exact lh) hq
  refine dE (fun e' s' W=>⟨e,So,hn,by rw[hx];rfl,?_,?_⟩) g
  ·rw[W.1,<-q1]
  ·have i:=fp W.2 (zk ks ρ p)
   rw[<-q2]at i
   exact fp i (aef hf (ZA _) ρ)
theorem NI {P:Program} {N:Nat} {body:Code} {k0 n:Nat} {S0:XS} (hS:S0.ar n=true) (Ss:Nat->XS) (L:Nat->bf) (hL:∀i,(L i).k0=k0/\(L i).S=S0/\(L i).init=gj) (aF:Nat->aa->Prop) (dl:aa->Nat)
  (hR:∀i ρ,aF i ρ->jj P N body k0 (Ss i) (L i).out ρ\/∃i' F,ea P N body k0 (Ss i) (Ss i') ρ F/\aF i' F/\dl F<dl ρ/\az n ρ F)
  {ρ:aa} (h0:∃i al,az n ρ al/\aF i al/\∀ac:Aw.Env,ac.N=N->(∀m,ac.c0.kn m->m.1<k0)->dF ac (S0.I ρ) ((Ss i).I al)):∃i am,az n ρ am/\aF i am/\bW P am N body (L i):=by
 have key:∀(k:Nat) (i:Nat) (ρ:aa),dl ρ<=k->aF i ρ->∃i' am,az n ρ am/\aF i' am/\∀ac:Aw.Env,ac.N=N->(∀m,ac.c0.kn m->m.1<k0)->∃m,jM P ac body (fun e V=>∃e' s,(L i').out.aq am=some (e',s)/\e=e'.to/\dF ac V (s.I am)) m ((Ss i).I ρ):=by
  have fin:∀i ρ,jj P N body k0 (Ss i) (L i).out ρ->∀ac:Aw.Env,ac.N=N->(∀m,ac.c0.kn m->m.1<k0)->∃m,jM P ac body (fun e V=>∃e' s,(L i).out.aq ρ=some (e',s)/\e=e'.to/\dF ac V (s.I ρ)) m ((Ss i).I ρ):=fun i ρ h ac hE hb=>by
   refine⟨1,dE (fun e V hq => ?_) (h ac hE hb)⟩
   obtain⟨e',s,A,E,rfl,h4⟩:=hq
   cases e' with
   | normal=>exact absurd rfl A
   | exit j=>exact⟨_,s,E,rfl,h4⟩
   | ret=>exact⟨_,s,E,rfl,h4⟩
  intro k
  induction k with
  | zero =>
   intro i ρ u hr
   rcases hR i ρ hr with h | ⟨i',F,_,_,h,_⟩
   ·exact⟨i,ρ,az.refl _ _,hr,fin i ρ h⟩
   ·omega
  | succ k ih =>
   intro i ρ u hr
   rcases hR i ρ hr with h | ⟨i',F,A,E,h3,h5⟩
   ·exact⟨i,ρ,az.refl _ _,hr,fin i ρ h⟩
   ·obtain⟨oh,am,g2,g3,g4⟩:=ih i' F (by omega) E
    refine⟨oh,am,h5.trans g2,g3,fun ac hE hb => ?_⟩
    obtain⟨m,g5⟩:=g4 ac hE hb
    refine⟨m+1,dE (fun e V hq => ?_) (A ac hE hb)⟩
    obtain⟨rfl,hi⟩:=hq
    cases m with
    | zero=>exact g5.elim
    | succ m=>exact p_ hi g5
 obtain⟨i,al,nL,hr,himp⟩:=h0
 obtain⟨i',am,g2,g3,g4⟩:=key (dl al) i al (Nat.le_refl _) hr
 refine⟨i',am,nL.trans g2,g3,fun ac hE hb => ?_⟩
 obtain⟨e1,e2,e3⟩:=hL i'
 rw[e2,e3,WR,<-XS.aT (nL.trans g2) S0 hS]
 rw[e1]at hb
 obtain⟨m,g5⟩:=g4 ac hE hb
 exact p_ (himp ac hE hb) (DL m g5)
end Go.Proofs.Xw
namespace Go.Proofs.Xw
open Go Go.Proofs.Aw Go.ChangeShapes Go.WideShapes
section
variable {aR:Type} {enc:TypeId×Value->aR} {P:Program}
theorem Gp {ao β:Type} {f:ao->Option β}:∀{l:List ao} {r:List β},l.mapM f=some r->r.length=l.length
 | [],r,h=>by simp only[List.mapM_nil,pure,Option.some.injEq]at h;subst h;rfl
 | a::l,r,h=>by
  simp only[List.mapM_cons,bind,Option.bind_eq_some_iff,pure,Option.some.injEq]at h
  obtain⟨y,_,ys,jp,rfl⟩:=h
  simp[Gp jp]
theorem ahM {t e:TypeId} (hu:P.underlying t=some (.slice e)) {ak:World} {ab:Option Addr} {len cap:Nat} {d:DataW aR} {p:List MemPlace} (h:DataW.Trod enc P ak 0 (fun _=>true) true t (.slice ab len cap) d p):len=0\/∃elems spare,d = .slice elems spare/\elems.length=len:=by
 obtain⟨n,h⟩:=h
 cases n with
 | zero=>simp[DataW.trod]at h
 | succ n =>
  have R:(Value.slice ab len cap).cells.toList=[.slice ab len cap]:=rfl
  rw[R,DataW.trod_step]at h
  unfold DataW.trodStep at h
  rw[hu]at h
  cases ab with
  | none =>
   left
   cases len<;>cases cap<;>simp_all
  | some a =>
   simp only at h
   split at h
   ·obtain⟨elems,G,h⟩:=Option.bind_eq_some_iff.1 h
    obtain⟨rest,_,h⟩:=Option.map_eq_some_iff.1 h
    right
    have A:=congrArg Prod.fst h
    simp only at A
    exact⟨_,_,A.symm,by rw[List.length_map,Gp G,List.length_range]⟩
   ·cases h
theorem VW {ak:World} {gs:List (DataW aR)} {us:List TypeId}:∀{ts:List TypeId} {vs:List Value} {ds:List (DataW aR)} {p:List MemPlace},DataW.TrodAll enc P ak 0 (fun _=>true) true ts vs ds p->(DataW.weightsEach P (ts++us) (ds++gs)).all (· <= reachBytes)=true ->
  ∀(j:Nat) (t e:TypeId) (ab:Option Addr) (len cap:Nat),ts[j]? = some t->vs[j]? = some (.slice ab len cap)->P.underlying t=some (.slice e)->len*P.bytesOf e<=reachBytes
 | [],_,_,_,_,_,j,t,e,ab,len,cap,A,_,_=>by simp at A
 | t0::ts,vs,ds,p,h,hw,j,t,e,ab,len,cap,A,E,hu=>by
  obtain⟨v,ch,d,sb,p1,p2,rfl,rfl,rfl,g1,g2⟩:=trodAll_cons h
  simp only[List.cons_append,DataW.weightsEach,List.all_append,Bool.and_eq_true]at hw
  cases j with
  | zero =>
   simp only[List.getElem?_cons_zero,Option.some.injEq]at A E
   subst A E
   rcases ahM hu g1 with h0 | ⟨elems,spare,rfl,M⟩
   ·subst h0;simp
   ·have:=hw.1
    simp only[DataW.weights,hu,List.all_cons,Bool.and_eq_true,decide_eq_true_eq]at this
    have h3:=this.1
    rw[M]at h3
    exact Nat.le_trans (Nat.mul_le_mul_right _ (Nat.le_add_right _ _)) h3
  | succ j=>exact VW g2 hw.2 j t e ab len cap (by simpa using A) (by simpa using E) hu
def Jm (P:Program) (ts:List TypeId) (vs:List Value):Prop:=∀(j:Nat) (t e:TypeId) (ab:Option Addr) (len cap:Nat),ts[j]? = some t->vs[j]? = some (.slice ab len cap)->P.underlying t=some (.slice e)->len*P.bytesOf e<=reachBytes
end
theorem afG {aR:Type} {enc:TypeId×Value->aR} {a:Assume} {C:Checked} {os:Os} {f:FuncId} {fn:Func} {s:ChangeSpec} {conds:List PathCond} {apart fresh handsOn again:Bool}
  (own:ownKnob C.prog.godebug=none) (started:os.Started) (noInit:C.prog.inits.idxOf? f=none) (u0:C.prog.funcs[f]? = some fn)
  (witness:∃(w:World) (tape:Tape) (i:Input),w.os=os/\(w.forCall tape i).Shaped C.prog/\i.vars=[]/\Input.okWide C.prog (w.forCall tape i) .any w.heap.size f i /\
   s.pre6 enc C.prog fn conds apart (w.forCall tape i).memory i.args/\a.holds C.prog (lone (Frame.enter C.prog f i.args .normal) [] (w.forCall tape i)))
  (contract:∀(ak:World) (base:Nat) (args:Array Value) (ds gs:List (DataW aR)) (before:List MemPlace),
   (∀(j:Nat) t v,fn.params[j]? = some t->args[j]? = some v->Value.okWide C.prog ak .any base t v) ->
   DataW.Whole enc C.prog fn.params.toList s.vars apart ak args.toList ds gs before ->
   (DataW.weightsEach C.prog (fn.params.toList++s.plain.varTypes C.prog) (ds++gs)).all (· <= reachBytes)=true ->
   Calls C.prog f args ak fun e W'=>∃v,e = .returned v/\s.post enc C.prog fn apart fresh handsOn again ak args v W') :
  ReturnsInHanded a C os f .any (s.pre6 enc C.prog fn conds apart) (s.post enc C.prog fn apart fresh handsOn again):=by
 have h:=returnsInHanded_of_change_and (enc:=enc) (a:=a) (C:=C) (os:=os) (f:=f) (fn:=fn) (s:=s) (conds:=conds) (apart:=apart) (fresh:=fresh) (handsOn:=handsOn) (again:=again) (X:=fun _ _=>True) (fun _ _ _ _ h=>h) own started noInit u0
  (by
   obtain⟨w,t,i,bm,bl,gL,DZ,⟨qa,nM⟩,iA⟩:=witness
   exact⟨w,t,i,bm,bl,gL,DZ,⟨⟨qa,trivial⟩,nM⟩,iA⟩) (fun ak base args ds gs before A E _ h4 _ _=>contract ak base args ds gs before A E h4)
 have e:(fun w args=>(s.pre enc C.prog fn conds apart w args/\True)/\sizedMet enc C.prog fn (OpenSpec.ofChange s) apart w args)=s.pre6 enc C.prog fn conds apart:=by
  funext w args
  simp only[ChangeSpec.pre6,and_true]
 rw[<-e]
 exact h
end Go.Proofs.Xw
namespace Go.Proofs.Xw
open Go Go.Proofs.Aw
def Vu (aU:List Nm) (n:Nm):Bool:=aU.any (cN n)
def afa (h:au) (aU:List Nm) (z:Nat):X->X
 | .slv n z' off len w=>if Vu aU n=true then(match bh h n with
   | some [.rows auf m l]=>if(Nat.beq z' auf&&(off.beq (.lit 0)&&(len.beq m&&l.wd z')))=true then .rl z' m l false else .top
   | _ => .top)else .slv n z' off len w
 | .k v=>if zu v (.slice none 0 0)=true then .ro z [] false else .k v
 | x=>x
def afb (h:au) (aU:List Nm) (m0:Nm) (z:Nat) (m:Nm) (cs:List X):List X:=if(cN m m0 && !(b6 cs))=true then cs.map (afa h aU z)else cs
def LB (h:au) (aU:List Nm) (m0:Nm) (z:Nat):au->au
 | []=>[]
 | (m,cs)::r=>if Vu aU m=true then LB h aU m0 z r else(m,afb h aU m0 z m cs)::LB h aU m0 z r
def XS.frz (aU:List Nm) (m0:Nm) (z:Nat) (s:XS):XS:=⟨s.t,LB s.h aU m0 z s.h,s.nx⟩
end Go.Proofs.Xw
namespace Go.Proofs.Xw
open Go Go.Proofs.Aw Go.ChangeShapes Go.WideShapes
section
variable {aR:Type} {enc:TypeId×Value->aR} {P:Program}
def Good (enc:TypeId×Value->aR) (P:Program) (t:TypeId) (aU:World->List Value->Prop):Prop :=
 ∀(ak:World) (n:Nat) (cs:List Value) (x:DataW aR×List MemPlace),DataW.trod enc P ak 0 (fun _=>true) true n t cs=some x->aU ak cs/\∀(W':World) (sp:Nat->Bool),(∀b,b<ak.heap.size->W'.heap[b]? = ak.heap[b]?)->(∀q∈x.2,sp q.block=true)->DataW.trod enc P W' 0 sp true n t cs=some x
theorem Uu {d:Nat} {t:TypeId} {ks:List Kd} (h:k8 P d t=some ks):Good enc P t (fun _ cs=>KS ks cs):=fun ak n cs x hx=>by
 obtain⟨_,E,h3⟩:=AY (enc:=enc) d n t ks h ak 0 (fun _=>true) true cs x hx
 exact⟨E,fun W' sp _ _=>h3 W' 0 sp true⟩
def RF (P:Program) (e:TypeId) (aU:World->List Value->Prop) (ak:World) (cs:List Value):Prop :=
 ∃ab len cap,cs=[.slice ab len cap]/\len<=cap/\cap<=maxLen/\(0<len->∃a,ab=some a/\a.block<ak.heap.size/\∀r,r<len->∃ds,ak.cells? 0 (a.add (r*P.cellsOf e)) (P.cellsOf e)=some ds/\aU ak ds)
theorem Uv {t e:TypeId} {aU:World->List Value->Prop} (hu:P.underlying t=some (.slice e)) (hz:0<P.cellsOf e) (Z:Good enc P e aU):Good enc P t (RF P e aU):=fun ak n cs x h=>by
 cases n with
 | zero=>simp[DataW.trod]at h
 | succ n =>
  simp only[DataW.trod_step]at h ⊢
  unfold DataW.trodStep at h ⊢
  rw[hu]at h
  simp only[hu]at h ⊢
  match cs,h with
  | [.slice none 0 0],h =>
   exact⟨⟨none,0,0,rfl,Nat.le_refl _,Nat.zero_le _,fun W=>absurd W (by omega)⟩,fun W' sp _ _=>h⟩
  | [.slice (some a) len cap],h =>
   simp only at h ⊢
   split at h
   ·rename_i H
    obtain⟨elems,G,h⟩:=Option.bind_eq_some_iff.1 h
    obtain⟨rest,hr,rfl⟩:=Option.map_eq_some_iff.1 h
    simp only[if_true]at hr
    have one:∀i y,(ak.cells? 0 (a.add (i*P.cellsOf e)) (P.cellsOf e)).bind (DataW.trod enc P ak 0 (fun _=>true) true n e)=some y ->
      ∃ds,ak.cells? 0 (a.add (i*P.cellsOf e)) (P.cellsOf e)=some ds/\aU ak ds/\∀(W':World) (sp:Nat->Bool),(∀b,b<ak.heap.size->W'.heap[b]? = ak.heap[b]?)->(∀q∈y.2,sp q.block=true)->DataW.trod enc P W' 0 sp true n e ds=some y:=fun i y hy=>by
     obtain⟨ds,A,E⟩:=Option.bind_eq_some_iff.1 hy
     obtain⟨g2,g3⟩:=Z ak n ds y E
     exact⟨ds,A,g2,g3⟩
    refine⟨⟨some a,len,cap,rfl,H.2.1,H.2.2,fun M=>⟨a,rfl,?_,fun r mf => ?_⟩⟩,fun W' sp Fh x3 => ?_⟩
    ·obtain⟨y,hy⟩:=B4 G 0 (by simpa using M)
     obtain⟨ds,A,_⟩:=one 0 y hy
     have:=World.cells?_block A hz
     simpa [block_add]using this
    ·obtain⟨y,hy⟩:=B4 G r (by simpa using mf)
     obtain⟨ds,A,E,_⟩:=one r y hy
     exact⟨ds,A,E⟩
    ·rw[if_pos H]
     have carry:∀i y,y∈elems++rest->(ak.cells? 0 (a.add (i*P.cellsOf e)) (P.cellsOf e)).bind (DataW.trod enc P ak 0 (fun _=>true) true n e)=some y ->
       (W'.cells? 0 (a.add (i*P.cellsOf e)) (P.cellsOf e)).bind (DataW.trod enc P W' 0 sp true n e)=some y:=fun i y hm hy=>by
      obtain⟨ds,A,_,h3⟩:=one i y hy
      rw[Sk Fh hz A]
      exact h3 W' sp Fh fun q hq=>x3 q (List.mem_append_right _ (List.mem_flatMap.2 ⟨y,hm,hq⟩))
     have e1:=mapM_carry (g:=fun i=>(W'.cells? 0 (a.add (i*P.cellsOf e)) (P.cellsOf e)).bind (DataW.trod enc P W' 0 sp true n e)) G fun i y _ vf hy=>carry i y (List.mem_append_left _ vf) hy
     rw[e1]
     simp only[Option.bind_some]
     have e2:(if sp a.block=true then(List.range (cap-len)).mapM fun j=>(W'.cells? 0 (a.add ((len+j)*P.cellsOf e)) (P.cellsOf e)).bind (DataW.trod enc P W' 0 sp true n e)else some [])=some rest:=by
      have e3:=mapM_carry (g:=fun j=>(W'.cells? 0 (a.add ((len+j)*P.cellsOf e)) (P.cellsOf e)).bind (DataW.trod enc P W' 0 sp true n e)) hr fun j y _ vf hy=>carry (len+j) y (List.mem_append_right _ vf) hy
      split
      ·exact e3
      ·rename_i Mu
       have gg:rest.length=cap-len:=by
        have:=Gp hr
        simpa using this
       by_cases h0:cap-len=0
       ·rw[h0]at gg
        rw[List.length_eq_zero_iff.1 gg]
       ·exfalso
        apply Mu
        refine x3 (.cell a.block (a.off+0)) (List.mem_append_left _ (MemPlace.mem_row.2 ⟨0,?_,rfl⟩))
        exact Nat.mul_pos (by omega) hz
     rw[e2];rfl
   ·cases h
theorem ae2 {e:TypeId} {ks:List Kd} (kf:0<ks.length) (hz:ks.length=P.cellsOf e) {ak:World} {cs:List Value} (h:RF P e (fun _ ds=>KS ks ds) ak cs):∃v,cs=[v]/\Fits ak (.sl ks) v/\nb (some v)<=maxLen:=by
 obtain⟨ab,len,cap,rfl,aZ,hm,hr⟩:=h
 refine⟨_,rfl,⟨kf,ab,len,cap,rfl,aZ,fun M => ?_⟩,Nat.le_trans aZ hm⟩
 obtain⟨a,hA,hb,hr⟩:=hr M
 refine⟨a,hA,hb,fun r mf => ?_⟩
 obtain⟨ds,A,E⟩:=hr r mf
 obtain⟨_,_,h4⟩:=World.cells?_some A
 exact⟨ds,E,fun k aM=>by rw[hz];exact h4 k (by omega)⟩
def NK (ak:World):List Nk->List Value->Prop
 | [],vs=>vs=[]
 | .f k::ks,vs=>∃v r,vs=v::r/\BS k v/\NK ak ks r
 | .r z _ kk::ks,vs=>∃v r,vs=v::r/\(Fits ak (.sl kk) v/\nb (some v)<=maxLen/\z=kk.length)/\NK ak ks r
theorem NK.flat {ak:World}:∀{l:List Kd} {c:List Value},KS l c->NK ak (l.map .f) c
 | [],_,h=>h
 | _::_,_,⟨v,r,e,R,hr⟩=>⟨v,r,e,R,NK.flat hr⟩
theorem NK.append {ak:World}:∀{l m:List Nk} {c d:List Value},NK ak l c->NK ak m d->NK ak (l++m) (c++d)
 | [],m,c,d,h,h'=>by simp only[NK]at h;subst h;exact h'
 | .f _::l,m,c,d,⟨v,r,e,R,hr⟩,h'=>by subst e;exact⟨v,r++d,rfl,R,NK.append hr h'⟩
 | .r _ _ _::l,m,c,d,⟨v,r,e,R,hr⟩,h'=>by subst e;exact⟨v,r++d,rfl,R,NK.append hr h'⟩
theorem NK.length {ak:World}:∀{l:List Nk} {c:List Value},NK ak l c->c.length=l.length
 | [],c,h=>by simp only[NK]at h;subst h;rfl
 | .f _::l,c,⟨v,r,e,_,hr⟩=>by subst e;simp[NK.length hr]
 | .r _ _ _::l,c,⟨v,r,e,_,hr⟩=>by subst e;simp[NK.length hr]
def An (P:Program) (p:Nat->TypeId->Option (List Nk)) (base:Nat):Nat->List Field->Option (List Nk)
 | _,[]=>some []
 | off,f::fs=>if f.offset=off then(p (base+off) f.type).bind fun l=>if l.length=P.cellsOf f.type then(An P p base (off+P.cellsOf f.type) fs).map fun r=>l++r else none else none
def EC (P:Program) (S:Nat):Nat->Nat->TypeId->Option (List Nk)
 | 0,_,_=>none
 | d+1,off,t=>match k8 P 8 t with
  | some l=>some (l.map .f)
  | none=>match P.underlying t with
   | some (.slice e)=>(match k8 P 8 e with
    | some kk=>if 0<kk.length/\kk.length=P.cellsOf e then some [.r kk.length (S+off) kk]else none
    | none=>none)
   | some (.struct fs)=>(An P (EC P S d) off 0 fs.toList).bind fun l=>if l.length=P.cellsOf t then some l else none
   | _=>none
theorem SW {ak:World} {n:Nat} {cs:List Value} {p:Nat->TypeId->Option (List Nk)} {base:Nat} (hp:∀off t ks,p off t=some ks->Good enc P t (fun ak cs=>NK ak ks cs)):∀(fs:List Field) (off:Nat) (ks:List Nk) (xs:List (DataW aR×List MemPlace)),An P p base off fs=some ks->fs.mapM (fun f=>DataW.trod enc P ak 0 (fun _=>true) true n f.type ((cs.drop f.offset).take (P.cellsOf f.type)))=some xs ->
  NK ak ks ((cs.drop off).take ks.length)/\∀(W':World) (sp:Nat->Bool),(∀b,b<ak.heap.size->W'.heap[b]? = ak.heap[b]?)->(∀q∈xs.flatMap (·.2),sp q.block=true)->fs.mapM (fun f=>DataW.trod enc P W' 0 sp true n f.type ((cs.drop f.offset).take (P.cellsOf f.type)))=some xs
 | [],off,ks,xs,h,hm=>by
  simp only[An,Option.some.injEq]at h
  subst h
  simp at hm
  subst hm
  exact⟨by simp[NK],fun _ _ _ _=>rfl⟩
 | f::fs,off,ks,xs,h,hm=>by
  simp only[An]at h
  split at h
  ·rename_i qF
   obtain⟨l,M,h⟩:=Option.bind_eq_some_iff.1 h
   split at h
   ·rename_i hlen
    obtain⟨li,u,rfl⟩:=Option.map_eq_some_iff.1 h
    simp only[List.mapM_cons,bind,Option.bind_eq_some_iff,pure,Option.some.injEq]at hm
    obtain⟨y,hy,ys,jp,rfl⟩:=hm
    obtain⟨bm,bl⟩:=hp _ _ l M ak n _ y hy
    obtain⟨b1,b2⟩:=SW hp fs _ li ys u jp
    subst qF
    refine⟨?_,fun W' sp hW hq => ?_⟩
    ·rw[List.length_append,Ta,hlen]
     exact NK.append bm b1
    ·have e1:=bl W' sp hW fun q hJ=>hq q (by rw[List.flatMap_cons];exact List.mem_append_left _ hJ)
     have e2:=b2 W' sp hW fun q hJ=>hq q (by rw[List.flatMap_cons];exact List.mem_append_right _ hJ)
     simp only[List.mapM_cons,bind,e1,e2,Option.bind_some,pure]
   ·cases h
  ·cases h
theorem Ut {S:Nat}:∀(d off:Nat) (t:TypeId) (ks:List Nk),EC P S d off t=some ks->Good enc P t (fun ak cs=>NK ak ks cs)
 | 0,_,_,_,h=>by cases h
 | d+1,off,t,ks,h=>fun ak n cs x hx=>by
  simp only[EC]at h
  split at h
  ·rename_i l M
   cases h
   obtain⟨g1,g2⟩:=Uu (enc:=enc) M ak n _ x hx
   exact⟨NK.flat g1,g2⟩
  ·split at h
   ·rename_i e hu
    split at h
    ·rename_i kk Fy
     split at h
     ·rename_i H
      cases h
      obtain⟨g1,g2⟩:=Uv (enc:=enc) hu (by omega) (Uu Fy) ak n _ x hx
      obtain⟨v,R,hf,hm⟩:=ae2 H.1 H.2 g1
      exact⟨by rw[R];exact⟨v,[],rfl,⟨hf,hm,rfl⟩,rfl⟩,g2⟩
     ·cases h
    ·cases h
   ·rename_i fs hu
    obtain⟨l,M,h⟩:=Option.bind_eq_some_iff.1 h
    split at h
    ·rename_i hlen
     cases h
     cases n with
     | zero=>simp[DataW.trod]at hx
     | succ n =>
      simp only[DataW.trod_step]at hx ⊢
      unfold DataW.trodStep at hx ⊢
      rw[hu]at hx
      simp only[hu]at hx ⊢
      split at hx
      ·rename_i H
       obtain⟨xs,ve,rfl⟩:=Option.map_eq_some_iff.1 hx
       obtain⟨b1,b2⟩:=SW (enc:=enc) (base:=off) (fun o t ks h=>Ut d o t ks h) fs.toList 0 ks xs M ve
       refine⟨?_,fun W' sp hW hq => ?_⟩
       ·rw[List.drop_zero,List.take_of_length_le (by omega)]at b1
        exact b1
       ·rw[if_pos H,b2 W' sp hW hq];rfl
      ·cases hx
    ·cases h
   ·cases h
end
end Go.Proofs.Xw
namespace Go.Proofs.Xw
open Go Go.Proofs.Aw Go.ChangeShapes Go.WideShapes
inductive gK where
 | flat (ks:List Kd) (agg:Bool)
 | sl (ks:List Kd)
 | sn (ks:List Nk)
def df:Nat:=9223372036854775808
def s_ (ak:World) (vs:List Value) (zs:List Nat) (nz:Nat->Nat) (l k p:Nat):Option Value :=
 match eI ak vs zs (l / 64-1) (l % 64) (p / df)with
 | some (.slice (some a) _ _)=>ak.cell? ((a.add (p % df*nz l)).add k)
 | _=>none
def G4 (r:Nat):Option Value->Int
 | some (.int _ n)=>n
 | some (.slice _ _ _)=>((r*df:Nat):Int)
 | _=>0
def cy (ak:World) (cells vs:List Value) (zs:List Nat) (nz:Nat->Nat):aa where
 i p:=yc cells[p]?
 b p:=rX cells[p]?
 s p:=rF cells[p]?
 len j:=nb vs[j]?
 ci l k r:=if l<64 then(if k<1000 then G4 r (eI ak vs zs l k r)else((nb (eI ak vs zs l (k-1000) r):Nat):Int))else yc (s_ ak vs zs nz l k r)
 cb l k r:=if l<64 then rX (eI ak vs zs l k r)else rX (s_ ak vs zs nz l k r)
 cs l k r:=if l<64 then rF (eI ak vs zs l k r)else rF (s_ ak vs zs nz l k r)
 ct:=kz
def kG:Nat->Nat->List gK->List X
 | _,_,[]=>[]
 | p,j,.flat ks true::r => .agg (canon p ks)::kG (p+ks.length) (j+1) r
 | p,j,.flat ks false::r=>(canon p ks).headD .top::kG (p+ks.length) (j+1) r
 | p,j,.sl ks::r => .rl ks.length (.len j) (.var j ks) false::kG p (j+1) r
 | p,j,.sn ks::r => .rn ks.length (.len j) j ks false::kG p (j+1) r
def mC:List gK->List Value->List Value
 | .flat _ _::r,v::vs=>v.cells.toList++mC r vs
 | .sl _::r,_::vs=>mC r vs
 | .sn _::r,_::vs=>mC r vs
 | _,_=>[]
def rC:gK->Nat
 | .flat _ _=>0
 | .sl ks=>ks.length
 | .sn ks=>ks.length
def rQ (ak:World):gK->Value->Prop
 | .flat ks a,v=>Fits ak (.flat ks a) v
 | .sl ks,v=>Fits ak (.sl ks) v
 | .sn ks,v=>0<ks.length/\∃ab len cap,v = .slice ab len cap/\len<=cap/\(0<len->∃a,ab=some a/\a.block<ak.heap.size/\∀r,r<len->∃ds,NK ak ks ds/\∀k,k<ks.length->ak.cell? ((a.add (r*ks.length)).add k)=ds[k]?)
theorem Ex {C:Ctx} {ρ:aa} {l j ad:Nat} {f:Nat->Option Value} (hi:∀k K n,k<ad->f k=some (.int K n)->ρ.ci l k j=n) (hb:∀k n,k<ad->f k=some (.bool n)->ρ.cb l k j=n) (hs:∀k n,k<ad->f k=some (.string n)->ρ.cs l k j=n) :
  ∀(ks:List Kd) (k0:Nat) (cs:List Value),k0+ks.length<=ad->KS ks cs->(∀k,k<ks.length->f (k0+k)=cs[k]?)->∀(k:Nat) (c:AV),(bH ρ l k0 ks j)[k]? = some c->∃Y,f (k0+k)=some Y/\aj C c Y
 | [],_,_,_,_,_,k,c,h=>by simp[bH]at h
 | kd::ks,k0,cs,hB,⟨v,r,e,R,hr⟩,H,k,c,h=>by
  subst e
  simp only[List.length_cons]at hB
  have h0:f k0=some v:=by have:=H 0 (by simp);simpa using this
  have ih:=Ex (C:=C) hi hb hs ks (k0+1) r (by omega) hr (fun k u=>by
   have:=H (k+1) (by simp;omega)
   rw[show k0+1+k=k0+(k+1)from by omega,this];rfl)
  have next:∀k c,(bH ρ l (k0+1) ks j)[k]? = some c->∃Y,f (k0+(k+1))=some Y/\aj C c Y:=fun k c h=>by
   obtain⟨Y,hu,a9⟩:=ih k c h
   exact⟨Y,by rw[<-hu];congr 1;omega,a9⟩
  cases kd with
  | i kk =>
   obtain⟨n,rfl,_⟩:=R
   simp only[bH]at h
   cases k with
   | zero=>simp at h;subst h;exact⟨_,h0,by simp only[aj,hi k0 kk n (by omega) h0]⟩
   | succ k=>exact next k c (by simpa using h)
  | b =>
   obtain⟨n,rfl⟩:=R
   simp only[bH]at h
   cases k with
   | zero=>simp at h;subst h;exact⟨_,h0,by simp only[aj,hb k0 n (by omega) h0]⟩
   | succ k=>exact next k c (by simpa using h)
  | s =>
   obtain⟨n,rfl,_⟩:=R
   simp only[bH]at h
   cases k with
   | zero=>simp at h;subst h;exact⟨_,h0,by simp only[aj,hs k0 n (by omega) h0]⟩
   | succ k=>exact next k c (by simpa using h)
section
variable {C:Ctx} {ak:World} {cells vs:List Value} {zs:List Nat} {nz:Nat->Nat}
theorem Yf {l j:Nat} (M:l<64) (k:Nat) (K:IntKind) (n:Int) (u:k<1000) (h:eI ak vs zs l k j=some (.int K n)):(cy ak cells vs zs nz).ci l k j=n:=by
 simp only[cy,if_pos M,if_pos u,h,G4]
theorem Ye {l j:Nat} (M:l<64) (k:Nat) (n:Bool) (_:k<1000) (h:eI ak vs zs l k j=some (.bool n)):(cy ak cells vs zs nz).cb l k j=n:=by
 simp only[cy,if_pos M,h,rX]
theorem Yg {l j:Nat} (M:l<64) (k:Nat) (n:ByteArray) (_:k<1000) (h:eI ak vs zs l k j=some (.string n)):(cy ak cells vs zs nz).cs l k j=n:=by
 simp only[cy,if_pos M,h,rF]
theorem aiQ {l k0 j e len cap:Nat} {a:Addr} (M:l<64) (u:k0<64) (G:e<df) (hr:eI ak vs zs l k0 j=some (.slice (some a) len cap)) (k:Nat):s_ ak vs zs nz (64*(l+1)+k0) k (e+j*df)=ak.cell? ((a.add (e*nz (64*(l+1)+k0))).add k):=by
 have mX:0<df:=by decide
 have e1:(64*(l+1)+k0) / 64-1=l:=by omega
 have e2:(64*(l+1)+k0) % 64=k0:=by omega
 have e3:(e+j*df) / df=j:=by rw[Nat.add_mul_div_right _ _ mX,Nat.div_eq_of_lt G,Nat.zero_add]
 have e4:(e+j*df) % df=e:=by rw[Nat.add_mul_mod_self_right,Nat.mod_eq_of_lt G]
 simp only[s_,e1,e2,e3,e4,hr]
theorem adK (hW:C.w=ak) (hm:∀b,¬C.mt b) {l k0 j z:Nat} {kk:List Kd} {v:Value} (M:l<64) (u:k0<64) (Fy:kk.length<=1000) (hz:nz (64*(l+1)+k0)=z) (R:eI ak vs zs l k0 j=some v) (hf:Fits ak (.sl kk) v) (hb:nb (some v)<=maxLen) (G:z=kk.length) :
  aj C (.ro z (oJ (cy ak cells vs zs nz) (64*(l+1)+k0) kk ((cy ak cells vs zs nz).ci l k0 j) ((cy ak cells vs zs nz).ci l (k0+1000) j)) false) v:=by
 obtain⟨kf,ab,len,cap,rfl,aZ,qI⟩:=hf
 have c1:(cy ak cells vs zs nz).ci l k0 j=((j*df:Nat):Int):=by simp only[cy,if_pos M,if_pos (show k0<1000 by omega),R,G4]
 have c2:(cy ak cells vs zs nz).ci l (k0+1000) j=(len:Int):=by simp only[cy,if_pos M,if_neg (show ¬k0+1000<1000 by omega),Nat.add_sub_cancel,R,nb]
 have gg:(oJ (cy ak cells vs zs nz) (64*(l+1)+k0) kk ((cy ak cells vs zs nz).ci l k0 j) ((cy ak cells vs zs nz).ci l (k0+1000) j)).length=len:=by simp[oJ,c2]
 refine hv.2 ⟨ab,cap,by rw[gg],by rw[gg];exact aZ,fun h=>(nomatch h),fun ay => ?_⟩
 have eO:0<len:=by
  rcases Nat.eq_zero_or_pos len with h | h
  ·exfalso;apply ay;apply List.length_eq_zero_iff.1;rw[gg,h]
  ·exact h
 obtain⟨a,rfl,f0,hr⟩:=qI eO
 refine⟨a,rfl,by rw[hW];exact f0,hm _,dc.mk fun e row hM => ?_⟩
 have sB:e<len:=by rw[<-gg];exact(List.getElem?_eq_some_iff.1 hM).1
 have uY:e<df:=by
  have:len<=maxLen:=hb
  have e1:maxLen=9223372036854775807:=rfl
  have e2:df=9223372036854775808:=rfl
  omega
 have ago:row=bH (cy ak cells vs zs nz) (64*(l+1)+k0) 0 kk (e+j*df):=by
  unfold oJ at hM
  rw[List.getElem?_map,List.getElem?_range (by rw[c2];exact sB)]at hM
  simp only[Option.map_some,Option.some.injEq]at hM
  rw[<-hM,c1]
  congr 1
 subst ago
 obtain⟨ds,i5,H⟩:=hr e sB
 have WA:=aiQ (nz:=nz) M u uY R
 have Oh:¬64*(l+1)+k0<64:=by omega
 refine⟨by rw[Ac,G],cT.mk fun k c sD => ?_⟩
 obtain⟨Y,hu,a9⟩:=Ex (C:=C) (ρ:=cy ak cells vs zs nz) (l:=64*(l+1)+k0) (j:=e+j*df) (ad:=1000) (f:=fun k=>s_ ak vs zs nz (64*(l+1)+k0) k (e+j*df))
  (fun k K n _ h=>by simp only[cy,if_neg Oh,h,yc]) (fun k n _ h=>by simp only[cy,if_neg Oh,h,rX]) (fun k n _ h=>by simp only[cy,if_neg Oh,h,rF])
  kk 0 ds (by omega) i5 (fun k aM=>by rw[Nat.zero_add,WA,hz,G];exact H k aM) k c sD
 rw[Nat.zero_add,WA,hz]at hu
 exact⟨Y,by rw[hW,Nat.zero_add,Nat.zero_add];exact hu,a9⟩
theorem Ki (hW:C.w=ak) (hm:∀b,¬C.mt b) {l j:Nat} (M:l<64):∀(ks:List Nk) (k0:Nat) (ds:List Value),k0+ks.length<=1000->NK ak ks ds->(∀k,k<ks.length->eI ak vs zs l (k0+k) j=ds[k]?)->(∀(k:Nat) (z S:Nat) (kk:List Kd),ks[k]? = some (.r z S kk)->k0+k<64/\S=64*(l+1)+(k0+k)/\nz S=z/\kk.length<=1000) ->
  ∀(k:Nat) (c:AV),(dL (cy ak cells vs zs nz) l k0 ks j)[k]? = some c->∃Y,eI ak vs zs l (k0+k) j=some Y/\aj C c Y
 | [],_,_,_,_,_,_,k,c,h=>by simp[dL]at h
 | .f kd::ks,k0,ds,hB,⟨v,r,e,R,hr⟩,H,hn,k,c,h=>by
  subst e
  simp only[List.length_cons]at hB
  have h0:eI ak vs zs l k0 j=some v:=by have:=H 0 (by simp);simpa using this
  cases k with
  | zero =>
   have eW:(bH (cy ak cells vs zs nz) l k0 [kd] j)[0]? = some c:=by
    rw[<-h];cases kd<;>rfl
   exact Ex (C:=C) (ad:=1000) (f:=fun k=>eI ak vs zs l k j) (Yf M) (Ye M) (Yg M) [kd] k0 [v] (by simp;omega) ⟨v,[],rfl,R,rfl⟩ (fun k u=>by
    obtain rfl:k=0:=by simpa using u
    exact h0) 0 c eW
  | succ k =>
   obtain⟨Y,hu,a9⟩:=Ki hW hm M ks (k0+1) r (by omega) hr (fun k u=>by
    have:=H (k+1) (by simp;omega)
    rw[show k0+1+k=k0+(k+1)from by omega,this];rfl) (fun k z S kk u=>by
    have:=hn (k+1) z S kk (by simpa using u)
    rw[show k0+1+k=k0+(k+1)from by omega];exact this) k c (by simpa [dL]using h)
   exact⟨Y,by rw[<-hu];congr 1;omega,a9⟩
 | .r z S kk::ks,k0,ds,hB,⟨v,r,e,⟨hf,hb,hz⟩,hr⟩,H,hn,k,c,h=>by
  subst e
  simp only[List.length_cons]at hB
  have h0:eI ak vs zs l k0 j=some v:=by have:=H 0 (by simp);simpa using this
  cases k with
  | zero =>
   obtain⟨n0,n1,n2,aig⟩:=hn 0 z S kk rfl
   rw[Nat.add_zero]at n0
   simp only[dL,List.getElem?_cons_zero,Option.some.injEq]at h
   subst h
   rw[Nat.add_zero]at n1
   subst n1
   exact⟨v,h0,adK hW hm M n0 aig n2 h0 hf hb hz⟩
  | succ k =>
   obtain⟨Y,hu,a9⟩:=Ki hW hm M ks (k0+1) r (by omega) hr (fun k u=>by
    have:=H (k+1) (by simp;omega)
    rw[show k0+1+k=k0+(k+1)from by omega,this];rfl) (fun k z S kk u=>by
    have:=hn (k+1) z S kk (by simpa using u)
    rw[show k0+1+k=k0+(k+1)from by omega];exact this) k c (by simpa [dL]using h)
   exact⟨Y,by rw[<-hu];congr 1;omega,a9⟩
end
end Go.Proofs.Xw
