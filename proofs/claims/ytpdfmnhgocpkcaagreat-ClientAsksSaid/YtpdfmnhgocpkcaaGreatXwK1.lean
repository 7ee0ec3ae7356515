/- Parts of the logic that the proof runs in, one behind the other. -/
import Derived.Test.YtpdfmnhgocpkcaaGreatTK1
namespace Go.Proofs.Xw
open Go Go.Proofs.Aw
abbrev NA:={v:AV // Aw.ca (fun _=>false) v=true/\v.one=true}
def kN:Nat->Nat->Nat->NA:=fun _ _ _=>⟨.sc (.bool false),rfl,rfl⟩
structure aa where
 i:Nat->Int
 b:Nat->Bool
 s:Nat->ByteArray
 len:Nat->Nat
 ci:Nat->Nat->Nat->Int
 cb:Nat->Nat->Nat->Bool
 cs:Nat->Nat->Nat->ByteArray
 ct:Nat->Nat->Nat->NA
inductive a_ where
 | add | sub | mul | quo | rem | and | or | xor | andNot | shl | shr | max | min | conv | cY | fT | nw
 deriving DecidableEq,Inhabited
def a_.I:a_->IntKind->Int->Int->Int
 | .add,k,a,b=>k.wrap (a+b)
 | .sub,k,a,b=>k.wrap (a-b)
 | .mul,k,a,b=>k.wrap (a*b)
 | .quo,k,a,b=>k.wrap (a.tdiv b)
 | .rem,_,a,b=>a.tmod b
 | .and,k,a,b=>bits .and k a b
 | .or,k,a,b=>bits .or k a b
 | .xor,k,a,b=>bits .xor k a b
 | .andNot,k,a,b=>bits .andNot k a b
 | .shl,k,a,b=>k.wrap (a*2 ^ (Min.min b.toNat k.bits))
 | .shr,k,a,b=>a.fdiv (2 ^ (Min.min b.toNat k.bits))
 | .max,_,a,b=>Max.max a b
 | .min,_,a,b=>Min.min a b
 | .conv,k,a,_=>k.wrap a
 | .cY,_,a,b=>a+b
 | .fT,_,a,b=>a-b
 | .nw,_,a,b=>a*b
mutual
inductive U where
 | lit (n:Int) | var (i:Nat) | cl (l k:Nat) (j:U) | len (l:Nat) | cm (t:TE) | fJ (t:TE) (j:U)
 | op (o:a_) (k:IntKind) (a b:U) | ite (c:BE) (a b:U) | uf (k j:Nat) (a:AL)
inductive AL where
 | nil | i (e:U) (r:AL) | b (e:BE) (r:AL) | s (e:TE) (r:AL)
inductive BE where
 | lit (b:Bool) | var (i:Nat) | cl (l k:Nat) (j:U) | lt (a b:U) | eq (a b:U) | seq (a b:TE) | slt (a b:TE)
 | not (a:BE) | and (a b:BE) | or (a b:BE) | ite (c a b:BE)
inductive TE where
 | lit (s:ByteArray) | var (i:Nat) | cl (l k:Nat) (j:U) | sub (t:TE) (a b:U) | ite (c:BE) (a b:TE)
end
instance:Inhabited U:=⟨.lit 0⟩
instance:Inhabited BE:=⟨.lit false⟩
instance:Inhabited TE:=⟨.var 0⟩
mutual
noncomputable def U.I (ρ:aa):U->Int
 | .lit n=>n
 | .var i=>ρ.i i
 | .cl l k j=>ρ.ci l k (j.I ρ).toNat
 | .len l=>ρ.len l
 | .cm t=>(t.I ρ).size
 | .fJ t j=>(((t.I ρ)[(j.I ρ).toNat]?).getD 0).toNat
 | .op o k a b=>o.I k (a.I ρ) (b.I ρ)
 | .ite c a b=>if c.I ρ=true then a.I ρ else b.I ρ
 | .uf k j a=>UF k (a.I ρ) j
noncomputable def AL.I (ρ:aa):AL->List Value
 | .nil=>[]
 | .i e r => .int .i64 (e.I ρ)::r.I ρ
 | .b e r => .bool (e.I ρ)::r.I ρ
 | .s e r => .string (e.I ρ)::r.I ρ
noncomputable def BE.I (ρ:aa):BE->Bool
 | .lit b=>b
 | .var i=>ρ.b i
 | .cl l k j=>ρ.cb l k (j.I ρ).toNat
 | .lt a b=>decide (a.I ρ<b.I ρ)
 | .eq a b=>a.I ρ==b.I ρ
 | .seq a b=>(a.I ρ).toList==(b.I ρ).toList
 | .slt a b=>Op.bytesLess (a.I ρ).toList (b.I ρ).toList
 | .not a => !a.I ρ
 | .and a b=>a.I ρ&&b.I ρ
 | .or a b=>a.I ρ||b.I ρ
 | .ite c a b=>if c.I ρ=true then a.I ρ else b.I ρ
noncomputable def TE.I (ρ:aa):TE->ByteArray
 | .lit s=>s
 | .var i=>ρ.s i
 | .cl l k j=>ρ.cs l k (j.I ρ).toNat
 | .sub t a b=>(t.I ρ).extract (a.I ρ).toNat (b.I ρ).toNat
 | .ite c a b=>if c.I ρ=true then a.I ρ else b.I ρ
end
def V0:IntKind->Nat
 | .i8=>0 | .i16=>1 | .i32=>2 | .i64=>3 | .u8=>4 | .u16=>5 | .u32=>6 | .u64=>7
def mw (a b:IntKind):Bool:=Nat.beq (V0 a) (V0 b)
theorem ox {a b:IntKind} (h:mw a b=true):a=b:=by cases a<;>cases b<;>first | rfl | exact absurd h (by decide)
def a_.code:a_->Nat
 | .add=>0 | .sub=>1 | .mul=>2 | .quo=>3 | .rem=>4 | .and=>5 | .or=>6 | .xor=>7 | .andNot=>8 | .shl=>9 | .shr=>10 | .max=>11 | .min=>12 | .conv=>13 | .cY=>14 | .fT=>15 | .nw=>16
def a_.beq (a b:a_):Bool:=Nat.beq a.code b.code
theorem a_.beq_eq {a b:a_} (h:a.beq b=true):a=b:=by cases a<;>cases b<;>first | rfl | exact absurd h (by decide)
def Kc (a b:ByteArray):Bool:=a.data.toList==b.data.toList
theorem adT {a b:ByteArray} (h:Kc a b=true):a=b:=by
 obtain⟨⟨a⟩⟩:=a
 obtain⟨⟨b⟩⟩:=b
 simp only[Kc,beq_iff_eq]at h
 rw[h]
mutual
def U.beq:U->U->Bool
 | .lit a,.lit b=>a==b
 | .var a,.var b=>Nat.beq a b
 | .cl l k j,.cl l' k' j'=>Nat.beq l l'&&(Nat.beq k k'&&j.beq j')
 | .len a,.len b=>Nat.beq a b
 | .cm a,.cm b=>a.beq b
 | .fJ t j,.fJ t' j'=>t.beq t'&&j.beq j'
 | .op o k a b,.op o' k' bz dt=>o.beq o'&&(mw k k'&&(a.beq bz&&b.beq dt))
 | .ite c a b,.ite dD bz dt=>c.beq dD&&(a.beq bz&&b.beq dt)
 | .uf k j a,.uf k' j' bz=>Nat.beq k k'&&(Nat.beq j j'&&a.beq bz)
 | _,_=>false
def AL.beq:AL->AL->Bool
 | .nil,.nil=>true
 | .i e r,.i e' r'=>e.beq e'&&r.beq r'
 | .b e r,.b e' r'=>e.beq e'&&r.beq r'
 | .s e r,.s e' r'=>e.beq e'&&r.beq r'
 | _,_=>false
def BE.beq:BE->BE->Bool
 | .lit a,.lit b=>a==b
 | .var a,.var b=>Nat.beq a b
 | .cl l k j,.cl l' k' j'=>Nat.beq l l'&&(Nat.beq k k'&&j.beq j')
 | .lt a b,.lt bz dt=>a.beq bz&&b.beq dt
 | .eq a b,.eq bz dt=>a.beq bz&&b.beq dt
 | .seq a b,.seq bz dt=>a.beq bz&&b.beq dt
 | .slt a b,.slt bz dt=>a.beq bz&&b.beq dt
 | .not a,.not bz=>a.beq bz
 | .and a b,.and bz dt=>a.beq bz&&b.beq dt
 | .or a b,.or bz dt=>a.beq bz&&b.beq dt
 | .ite c a b,.ite dD bz dt=>c.beq dD&&(a.beq bz&&b.beq dt)
 | _,_=>false
def TE.beq:TE->TE->Bool
 | .lit a,.lit b=>Kc a b
 | .var a,.var b=>Nat.beq a b
 | .cl l k j,.cl l' k' j'=>Nat.beq l l'&&(Nat.beq k k'&&j.beq j')
 | .sub t a b,.sub t' bz dt=>t.beq t'&&(a.beq bz&&b.beq dt)
 | .ite c a b,.ite dD bz dt=>c.beq dD&&(a.beq bz&&b.beq dt)
 | _,_=>false
end
mutual
theorem U.beq_eq:∀(a b:U),a.beq b=true->a=b
 | .lit a,b,h=>by cases b<;>simp[U.beq]at h ⊢;exact h
 | .var a,b,h=>by cases b<;>simp[U.beq]at h ⊢;exact h
 | .cl l k j,b,h=>by
  cases b<;>simp[U.beq]at h ⊢
  exact⟨h.1,h.2.1,U.beq_eq _ _ h.2.2⟩
 | .len a,b,h=>by cases b<;>simp[U.beq]at h ⊢;exact h
 | .cm a,b,h=>by
  cases b<;>simp[U.beq]at h ⊢
  exact TE.beq_eq _ _ h
 | .fJ t j,b,h=>by
  cases b<;>simp[U.beq]at h ⊢
  exact⟨TE.beq_eq _ _ h.1,U.beq_eq _ _ h.2⟩
 | .op o k x y,b,h=>by
  cases b<;>simp[U.beq]at h ⊢
  exact⟨a_.beq_eq h.1,ox h.2.1,U.beq_eq _ _ h.2.2.1,U.beq_eq _ _ h.2.2.2⟩
 | .ite c x y,b,h=>by
  cases b<;>simp[U.beq]at h ⊢
  exact⟨BE.beq_eq _ _ h.1,U.beq_eq _ _ h.2.1,U.beq_eq _ _ h.2.2⟩
 | .uf k j x,b,h=>by
  cases b<;>simp[U.beq]at h ⊢
  exact⟨h.1,h.2.1,AL.beq_eq _ _ h.2.2⟩
theorem AL.beq_eq:∀(a b:AL),a.beq b=true->a=b
 | .nil,b,h=>by cases b<;>simp[AL.beq]at h ⊢
 | .i x y,b,h=>by
  cases b<;>simp[AL.beq]at h ⊢
  exact⟨U.beq_eq _ _ h.1,AL.beq_eq _ _ h.2⟩
 | .b x y,b,h=>by
  cases b<;>simp[AL.beq]at h ⊢
  exact⟨BE.beq_eq _ _ h.1,AL.beq_eq _ _ h.2⟩
 | .s x y,b,h=>by
  cases b<;>simp[AL.beq]at h ⊢
  exact⟨TE.beq_eq _ _ h.1,AL.beq_eq _ _ h.2⟩
theorem BE.beq_eq:∀(a b:BE),a.beq b=true->a=b
 | .lit a,b,h=>by cases b<;>simp[BE.beq]at h ⊢;exact h
 | .var a,b,h=>by cases b<;>simp[BE.beq]at h ⊢;exact h
 | .cl l k j,b,h=>by
  cases b<;>simp[BE.beq]at h ⊢
  exact⟨h.1,h.2.1,U.beq_eq _ _ h.2.2⟩
 | .lt x y,b,h=>by
  cases b<;>simp[BE.beq]at h ⊢
  exact⟨U.beq_eq _ _ h.1,U.beq_eq _ _ h.2⟩
 | .eq x y,b,h=>by
  cases b<;>simp[BE.beq]at h ⊢
  exact⟨U.beq_eq _ _ h.1,U.beq_eq _ _ h.2⟩
 | .seq x y,b,h=>by
  cases b<;>simp[BE.beq]at h ⊢
  exact⟨TE.beq_eq _ _ h.1,TE.beq_eq _ _ h.2⟩
 | .slt x y,b,h=>by
  cases b<;>simp[BE.beq]at h ⊢
  exact⟨TE.beq_eq _ _ h.1,TE.beq_eq _ _ h.2⟩
 | .not x,b,h=>by
  cases b<;>simp[BE.beq]at h ⊢
  exact BE.beq_eq _ _ h
 | .and x y,b,h=>by
  cases b<;>simp[BE.beq]at h ⊢
  exact⟨BE.beq_eq _ _ h.1,BE.beq_eq _ _ h.2⟩
 | .or x y,b,h=>by
  cases b<;>simp[BE.beq]at h ⊢
  exact⟨BE.beq_eq _ _ h.1,BE.beq_eq _ _ h.2⟩
 | .ite c x y,b,h=>by
  cases b<;>simp[BE.beq]at h ⊢
  exact⟨BE.beq_eq _ _ h.1,BE.beq_eq _ _ h.2.1,BE.beq_eq _ _ h.2.2⟩
theorem TE.beq_eq:∀(a b:TE),a.beq b=true->a=b
 | .lit a,b,h=>by
  cases b<;>simp[TE.beq]at h ⊢
  exact adT h
 | .var a,b,h=>by cases b<;>simp[TE.beq]at h ⊢;exact h
 | .cl l k j,b,h=>by
  cases b<;>simp[TE.beq]at h ⊢
  exact⟨h.1,h.2.1,U.beq_eq _ _ h.2.2⟩
 | .sub t x y,b,h=>by
  cases b<;>simp[TE.beq]at h ⊢
  exact⟨TE.beq_eq _ _ h.1,U.beq_eq _ _ h.2.1,U.beq_eq _ _ h.2.2⟩
 | .ite c x y,b,h=>by
  cases b<;>simp[TE.beq]at h ⊢
  exact⟨BE.beq_eq _ _ h.1,TE.beq_eq _ _ h.2.1,TE.beq_eq _ _ h.2.2⟩
end
def mkNot:BE->BE
 | .lit b => .lit (!b)
 | .not a=>a
 | a => .not a
theorem eA (ρ:aa) (a:BE):(mkNot a).I ρ = !a.I ρ:=by
 unfold mkNot;split<;>simp[BE.I]
def BE.sB:BE->BE->Bool
 | .not a,b=>a.beq b
 | a,.not b=>a.beq b
 | _,_=>false
theorem BE.SS {ρ:aa} {a b:BE} (h:a.sB b=true):(a.I ρ||b.I ρ)=true:=by
 unfold BE.sB at h
 split at h
 ·rw[BE.beq_eq _ _ h];simp[BE.I]
 ·rw[BE.beq_eq _ _ h];simp[BE.I]
 ·cases h
theorem BE.SU {ρ:aa} {a b:BE} (h:a.sB b=true):(a.I ρ&&b.I ρ)=false:=by
 unfold BE.sB at h
 split at h
 ·rw[BE.beq_eq _ _ h];simp[BE.I]
 ·rw[BE.beq_eq _ _ h];simp[BE.I]
 ·cases h
def mkAnd (a b:BE):BE :=
 match a,b with
 | .lit true,b=>b
 | .lit false,_ => .lit false
 | a,.lit true=>a
 | _,.lit false => .lit false
 | a,.or c d=>if a.sB c=true then .and a d else if a.beq c=true then a else .and a (.or c d)
 | a,b=>if a.beq b=true then a else if a.sB b=true then .lit false else .and a b
theorem fQ (ρ:aa) (a b:BE):(mkAnd a b).I ρ=(a.I ρ&&b.I ρ):=by
 unfold mkAnd
 split
 ·simp[BE.I]
 ·simp[BE.I]
 ·simp[BE.I]
 ·simp[BE.I]
 ·split
  ·rename_i h
   have:=BE.SU (ρ:=ρ) h
   simp only[BE.I]
   cases ha:BE.I ρ a
   ·simp
   ·rw[ha,Bool.true_and]at this;simp[this]
  ·split
   ·rename_i h;rw[BE.beq_eq _ _ h];simp only[BE.I];cases BE.I ρ _<;>simp
   ·simp[BE.I]
 ·split
  ·rename_i h;rw[BE.beq_eq _ _ h];simp
  ·split
   ·rename_i h;rw[BE.SU h];rfl
   ·simp[BE.I]
def mkOr (a b:BE):BE :=
 match a,b with
 | .lit false,b=>b
 | .lit true,_ => .lit true
 | a,.lit false=>a
 | _,.lit true => .lit true
 | a,.and c d=>if a.sB c=true then .or a d else if a.beq c=true then a else .or a (.and c d)
 | a,b=>if a.beq b=true then a else if a.sB b=true then .lit true else .or a b
theorem oI (ρ:aa) (a b:BE):(mkOr a b).I ρ=(a.I ρ||b.I ρ):=by
 unfold mkOr
 split
 ·simp[BE.I]
 ·simp[BE.I]
 ·simp[BE.I]
 ·simp[BE.I]
 ·split
  ·rename_i h
   have:=BE.SS (ρ:=ρ) h
   simp only[BE.I]
   cases ha:BE.I ρ a
   ·rw[ha,Bool.false_or]at this;simp[this]
   ·simp
  ·split
   ·rename_i h;rw[BE.beq_eq _ _ h];simp only[BE.I];cases BE.I ρ _<;>simp
   ·simp[BE.I]
 ·split
  ·rename_i h;rw[BE.beq_eq _ _ h];simp
  ·split
   ·rename_i h;rw[BE.SS h];rfl
   ·simp[BE.I]
def iF (c a b:BE):BE :=
 match c with
 | .lit true=>a
 | .lit false=>b
 | c=>if a.beq b=true then a else
  match a,b with
  | .lit true,.lit false=>c
  | .lit false,.lit true=>mkNot c
  | .lit true,b=>mkOr c b
  | .lit false,b=>mkAnd (mkNot c) b
  | a,.lit true=>mkOr (mkNot c) a
  | a,.lit false=>mkAnd c a
  | a,b => .ite c a b
theorem kM (ρ:aa) (c a b:BE):(iF c a b).I ρ=if c.I ρ=true then a.I ρ else b.I ρ:=by
 unfold iF
 split
 ·simp[BE.I]
 ·simp[BE.I]
 ·split
  ·rename_i h;rw[BE.beq_eq _ _ h];simp
  ·split<;>simp only[eA,oI,fQ,BE.I]<;>cases BE.I ρ c<;>simp
def lF (c:BE) (a b:U):U :=
 match c with
 | .lit true=>a
 | .lit false=>b
 | c=>if a.beq b=true then a else .ite c a b
theorem tw (ρ:aa) (c:BE) (a b:U):(lF c a b).I ρ=if c.I ρ=true then a.I ρ else b.I ρ:=by
 unfold lF
 split
 ·simp[BE.I]
 ·simp[BE.I]
 ·split
  ·rename_i h;rw[U.beq_eq _ _ h];simp
  ·simp[U.I]
def GZ (c:BE) (a b:TE):TE :=
 match c with
 | .lit true=>a
 | .lit false=>b
 | c=>if a.beq b=true then a else .ite c a b
theorem WE (ρ:aa) (c:BE) (a b:TE):(GZ c a b).I ρ=if c.I ρ=true then a.I ρ else b.I ρ:=by
 unfold GZ
 split
 ·simp[BE.I]
 ·simp[BE.I]
 ·split
  ·rename_i h;rw[TE.beq_eq _ _ h];simp
  ·simp[TE.I]
def mkEq:U->U->BE
 | .lit m,.lit n => .lit (m==n)
 | .lit m,b => .eq b (.lit m)
 | .ite c a b,.lit n=>iF c (mkEq a (.lit n)) (mkEq b (.lit n))
 | a,b=>if a.beq b=true then .lit true else .eq a b
theorem eX (ρ:aa):∀(a b:U),(mkEq a b).I ρ=(a.I ρ==b.I ρ):=by
 intro a b
 fun_induction mkEq a b with
 | case1=>simp[BE.I,U.I]
 | case2 m b h=>simp only[BE.I,U.I,BEq.comm]
 | case3 c a b n es ex=>rw[kM,es,ex];simp only[U.I];split<;>rfl
 | case4=>rename_i h;rw[U.beq_eq _ _ h];simp[BE.I]
 | case5 a b=>simp[BE.I]
def bD (n:Int):U->BE
 | .lit m => .lit (decide (m<n))
 | .ite c a b=>iF c (bD n a) (bD n b)
 | a => .lt a (.lit n)
theorem NX (ρ:aa) (n:Int):∀a:U,(bD n a).I ρ=decide (a.I ρ<n)
 | .lit m=>by simp only[bD,BE.I,U.I];exact decide_eq_decide.2 Iff.rfl
 | .ite c a b=>by simp only[bD,kM,NX ρ n a,NX ρ n b,U.I];split<;>rfl
 | .var i=>by simp only[bD,BE.I];exact decide_eq_decide.2 Iff.rfl
 | .cl l k j=>by simp only[bD,BE.I];exact decide_eq_decide.2 Iff.rfl
 | .len l=>by simp only[bD,BE.I];exact decide_eq_decide.2 Iff.rfl
 | .cm t=>by simp only[bD,BE.I];exact decide_eq_decide.2 Iff.rfl
 | .fJ t j=>by simp only[bD,BE.I];exact decide_eq_decide.2 Iff.rfl
 | .op o k a b=>by simp only[bD,BE.I];exact decide_eq_decide.2 Iff.rfl
 | .uf _ _ _=>by simp only[bD,BE.I];exact decide_eq_decide.2 Iff.rfl
def mC (n:Int):U->BE
 | .lit m => .lit (decide (n<m))
 | .ite c a b=>iF c (mC n a) (mC n b)
 | a => .lt (.lit n) a
theorem NY (ρ:aa) (n:Int):∀a:U,(mC n a).I ρ=decide (n<a.I ρ)
 | .lit m=>by simp only[mC,BE.I,U.I];exact decide_eq_decide.2 Iff.rfl
 | .ite c a b=>by simp only[mC,kM,NY ρ n a,NY ρ n b,U.I];split<;>rfl
 | .var i=>by simp only[mC,BE.I];exact decide_eq_decide.2 Iff.rfl
 | .cl l k j=>by simp only[mC,BE.I];exact decide_eq_decide.2 Iff.rfl
 | .len l=>by simp only[mC,BE.I];exact decide_eq_decide.2 Iff.rfl
 | .cm t=>by simp only[mC,BE.I];exact decide_eq_decide.2 Iff.rfl
 | .fJ t j=>by simp only[mC,BE.I];exact decide_eq_decide.2 Iff.rfl
 | .op o k a b=>by simp only[mC,BE.I];exact decide_eq_decide.2 Iff.rfl
 | .uf _ _ _=>by simp only[mC,BE.I];exact decide_eq_decide.2 Iff.rfl
def base:U->U×Int
 | .op .cY _ a (.lit c)=>(a,c)
 | .op .cY _ (.lit c) a=>(a,c)
 | .op .fT _ a (.lit c)=>(a,-c)
 | a=>(a,0)
theorem mW (ρ:aa) (a:U):a.I ρ=(base a).1.I ρ+(base a).2:=by
 unfold base
 split<;>simp only[U.I,a_.I]<;>omega
def mkLt:U->U->BE
 | a,.lit n=>bD n a
 | .lit n,b=>mC n b
 | a,b=>if(base a).1.beq (base b).1=true then .lit (decide ((base a).2<(base b).2))else .lt a b
theorem hh (ρ:aa) (a b:U):(mkLt a b).I ρ=decide (a.I ρ<b.I ρ):=by
 unfold mkLt
 split
 ·rw[NX];exact decide_eq_decide.2 Iff.rfl
 ·rw[NY];exact decide_eq_decide.2 Iff.rfl
 ·split
  ·rename_i h
   rw[mW ρ a,mW ρ b,U.beq_eq _ _ h]
   simp only[BE.I]
   exact decide_eq_decide.2 (by omega)
  ·simp only[BE.I]
def mkSeq:TE->TE->BE
 | .lit m,.lit n => .lit (m.toList==n.toList)
 | a,b=>if a.beq b=true then .lit true else .seq a b
theorem Oc (ρ:aa) (a b:TE):(mkSeq a b).I ρ=((a.I ρ).toList==(b.I ρ).toList):=by
 unfold mkSeq
 split
 ·simp[BE.I,TE.I]
 ·split
  ·rename_i h;rw[TE.beq_eq _ _ h];simp[BE.I]
  ·simp[BE.I]
def ia (o:a_) (k:IntKind) (a b:U):U :=
 match a,b with
 | .lit m,.lit n => .lit (o.I k m n)
 | a,b => .op o k a b
theorem oG (ρ:aa) (o:a_) (k:IntKind) (a b:U):(ia o k a b).I ρ=o.I k (a.I ρ) (b.I ρ):=by
 unfold ia;split<;>simp[U.I]
def mkMul:U->U->U
 | .lit m,.lit n => .lit (m*n)
 | a,.lit n=>if n==0 then .lit 0 else if n==1 then a else .op .nw .i64 (.lit n) a
 | .lit n,b=>if n==0 then .lit 0 else if n==1 then b else .op .nw .i64 (.lit n) b
 | a,b => .op .nw .i64 a b
theorem yJ (ρ:aa) (a b:U):(mkMul a b).I ρ=a.I ρ*b.I ρ:=by
 unfold mkMul
 split
 ·simp[U.I]
 ·split
  ·rename_i h;simp only[beq_iff_eq]at h;subst h;simp[U.I]
  ·split
   ·rename_i h;simp only[beq_iff_eq]at h;subst h;simp[U.I]
   ·simp only[U.I,a_.I];exact Int.mul_comm _ _
 ·split
  ·rename_i h;simp only[beq_iff_eq]at h;subst h;simp[U.I]
  ·split
   ·rename_i h;simp only[beq_iff_eq]at h;subst h;simp[U.I]
   ·simp only[U.I,a_.I]
 ·simp[U.I,a_.I]
def tz:TE->U
 | .lit s => .lit s.size
 | t => .cm t
theorem yL (ρ:aa) (t:TE):(tz t).I ρ=(t.I ρ).size:=by
 unfold tz;split<;>simp[U.I,TE.I]
def mkIff (a b:BE):BE:=if a.beq b=true then .lit true else iF a b (mkNot b)
theorem GY (ρ:aa) (a b:BE):(mkIff a b).I ρ=(a.I ρ==b.I ρ):=by
 unfold mkIff
 split
 ·rename_i h;rw[BE.beq_eq _ _ h];simp[BE.I]
 ·rw[kM,eA];cases a.I ρ<;>cases b.I ρ<;>rfl
end Go.Proofs.Xw
namespace Go.Proofs.Xw
open Go Go.Proofs.Aw
abbrev J:=List (BE×Bool)
def J.ok (ρ:aa) (B:J):Prop:=∀p∈B,p.1.I ρ=p.2
theorem J.bq (ρ:aa):J.ok ρ []:=fun _ h=>by cases h
theorem J.aw {ρ:aa} {c:BE} {v:Bool} {B:J} (h:c.I ρ=v) (u:J.ok ρ B):J.ok ρ ((c,v)::B):=fun p hp=>by
 rcases List.mem_cons.1 hp with rfl | hp
 ·exact h
 ·exact u p hp
theorem J.wj {ρ:aa} {p:BE×Bool} {B:J} (h:J.ok ρ (p::B)):p.1.I ρ=p.2/\J.ok ρ B:=⟨h p List.mem_cons_self,fun q hq=>h q (List.mem_cons_of_mem _ hq)⟩
structure Iv where
 lo:Option Int
 hi:Option Int
def Iv.ok (v:Iv) (x:Int):Prop:=(∀l,v.lo=some l->l<=x)/\(∀h,v.hi=some h->x<=h)
def Hz:Option Int->Option Int->Option Int
 | some a,some b=>some (if a<b then b else a)
 | some a,none=>some a
 | none,b=>b
def yU:Option Int->Option Int->Option Int
 | some a,some b=>some (if b<a then b else a)
 | some a,none=>some a
 | none,b=>b
def Iv.meet (a b:Iv):Iv:=⟨Hz a.lo b.lo,yU a.hi b.hi⟩
theorem Iv.N2 {a b:Iv} {x:Int} (ha:a.ok x) (hb:b.ok x):(a.meet b).ok x:=by
 obtain⟨dm,t7⟩:=a
 obtain⟨xm,adc⟩:=b
 refine⟨fun l O => ?_,fun h W => ?_⟩
 ·cases dm<;>cases xm<;>simp only[Iv.meet,Hz,Option.some.injEq,reduceCtorEq]at O
  ·exact hb.1 _ (by simp[O])
  ·exact ha.1 _ (by simp[O])
  ·subst O;split
   ·exact hb.1 _ rfl
   ·exact ha.1 _ rfl
 ·cases t7<;>cases adc<;>simp only[Iv.meet,yU,Option.some.injEq,reduceCtorEq]at W
  ·exact hb.2 _ (by simp[W])
  ·exact ha.2 _ (by simp[W])
  ·subst W;split
   ·exact hb.2 _ rfl
   ·exact ha.2 _ rfl
def Nl (e:U):BE×Bool->Iv
 | (.lt a (.lit n),true)=>if a.beq e=true then⟨none,some (n-1)⟩else⟨none,none⟩
 | (.lt a (.lit n),false)=>if a.beq e=true then⟨some n,none⟩else⟨none,none⟩
 | (.lt (.lit n) a,true)=>if a.beq e=true then⟨some (n+1),none⟩else⟨none,none⟩
 | (.lt (.lit n) a,false)=>if a.beq e=true then⟨none,some n⟩else⟨none,none⟩
 | (.eq a (.lit n),true)=>if a.beq e=true then⟨some n,some n⟩else⟨none,none⟩
 | _=>⟨none,none⟩
theorem Iv.lK (x:Int):Iv.ok ⟨none,none⟩ x:=⟨fun _ h=>(by cases h),fun _ h=>(by cases h)⟩
theorem ahg {ρ:aa} {e:U} {p:BE×Bool} (h:p.1.I ρ=p.2):(Nl e p).ok (e.I ρ):=by
 unfold Nl
 split
 ·split
  ·rename_i hb
   rw[<-U.beq_eq _ _ hb]
   have h:=of_decide_eq_true h
   simp only[U.I]at h
   exact⟨fun _ W=>(by cases W),fun _ W=>(by cases W;omega)⟩
  ·exact Iv.lK _
 ·split
  ·rename_i hb
   rw[<-U.beq_eq _ _ hb]
   have h:=of_decide_eq_false h
   simp only[U.I]at h
   exact⟨fun _ W=>(by cases W;omega),fun _ W=>(by cases W)⟩
  ·exact Iv.lK _
 ·split
  ·rename_i hb
   rw[<-U.beq_eq _ _ hb]
   have h:=of_decide_eq_true h
   simp only[U.I]at h
   exact⟨fun _ W=>(by cases W;omega),fun _ W=>(by cases W)⟩
  ·exact Iv.lK _
 ·split
  ·rename_i hb
   rw[<-U.beq_eq _ _ hb]
   have h:=of_decide_eq_false h
   simp only[U.I]at h
   exact⟨fun _ W=>(by cases W),fun _ W=>(by cases W;omega)⟩
  ·exact Iv.lK _
 ·split
  ·rename_i hb
   rw[<-U.beq_eq _ _ hb]
   simp only[BE.I,U.I,beq_iff_eq]at h
   exact⟨fun _ W=>(by cases W;omega),fun _ W=>(by cases W;omega)⟩
  ·exact Iv.lK _
 ·exact Iv.lK _
def Nj:U->Iv
 | .lit n=>⟨some n,some n⟩
 | .len _=>⟨some 0,none⟩
 | .cm _=>⟨some 0,none⟩
 | .fJ _ _=>⟨some 0,some 255⟩
 | .uf k _ _=>⟨some (jn k).1,some (jn k).2⟩
 | _=>⟨none,none⟩
theorem ahf (ρ:aa) (e:U):(Nj e).ok (e.I ρ):=by
 unfold Nj
 split
 ·exact⟨fun _ W=>(by cases W;simp[U.I]),fun _ W=>(by cases W;simp[U.I])⟩
 ·exact⟨fun _ W=>(by cases W;simp[U.I]),fun _ W=>(by cases W)⟩
 ·exact⟨fun _ W=>(by cases W;simp[U.I]),fun _ W=>(by cases W)⟩
 ·refine⟨fun _ W=>(by cases W;simp[U.I]),fun _ W => ?_⟩
  cases W
  simp only[U.I]
  have:=UInt8.toNat_lt ((((TE.I ρ ‹TE›)[(U.I ρ ‹U›).toNat]?).getD 0))
  omega
 ·exact⟨fun _ W=>(by cases W;exact(uF _ _ _).1),fun _ W=>(by cases W;exact(uF _ _ _).2)⟩
 ·exact Iv.lK _
def B3 (e:U):J->Iv
 | []=>Nj e
 | p::B=>(Nl e p).meet (B3 e B)
theorem pH {ρ:aa} {e:U}:∀{B:J},J.ok ρ B->(B3 e B).ok (e.I ρ)
 | [],_=>ahf ρ e
 | _::_,h=>Iv.N2 (ahg (J.wj h).1) (pH (J.wj h).2)
def yp (a b:Iv):Option Bool :=
 match a.hi,b.lo with
 | some h,some l=>if h<l then some true else(match a.lo,b.hi with | some l',some h'=>if h'<=l' then some false else none | _,_=>none)
 | _,_=>match a.lo,b.hi with | some l',some h'=>if h'<=l' then some false else none | _,_=>none
theorem yq {a b:Iv} {x y:Int} {r:Bool} (ha:a.ok x) (hb:b.ok y) (h:yp a b=some r):decide (x<y)=r:=by
 unfold yp at h
 split at h
 ·rename_i W l A E
  have:=ha.2 _ A
  have:=hb.1 _ E
  split at h
  ·cases h;exact decide_eq_true (by omega)
  ·split at h
   ·rename_i h3 h4
    have:=ha.1 _ h3
    have:=hb.2 _ h4
    split at h
    ·cases h;exact decide_eq_false (by omega)
    ·cases h
   ·cases h
 ·split at h
  ·rename_i h3 h4
   have:=ha.1 _ h3
   have:=hb.2 _ h4
   split at h
   ·cases h;exact decide_eq_false (by omega)
   ·cases h
  ·cases h
def Gj (a b:Iv):Option Bool :=
 match yp a b,yp b a with
 | some true,_=>some false
 | _,some true=>some false
 | some false,some false=>some true
 | _,_=>none
theorem VU {a b:Iv} {x y:Int} {r:Bool} (ha:a.ok x) (hb:b.ok y) (h:Gj a b=some r):(x==y)=r:=by
 unfold Gj at h
 split at h
 ·rename_i A
  have:=yq ha hb A
  cases h;simp only[decide_eq_true_eq]at this
  exact beq_eq_false_iff_ne.2 (by omega)
 ·rename_i A _
  have:=yq hb ha A
  cases h;simp only[decide_eq_true_eq]at this
  exact beq_eq_false_iff_ne.2 (by omega)
 ·rename_i A E
  have:=yq ha hb A
  have:=yq hb ha E
  cases h;simp only[decide_eq_false_iff_not]at *
  exact beq_iff_eq.2 (by omega)
 ·cases h
def Hm:Option Int->Option Int->Option Int
 | some a,some b=>some (a+b)
 | _,_=>none
theorem Xg {a b:Option Int} {c:Int} (h:Hm a b=some c):∃x y,a=some x/\b=some y/\c=x+y:=by
 unfold Hm at h
 split at h
 ·cases h;exact⟨_,_,rfl,rfl,rfl⟩
 ·cases h
def B2 (a b:Iv):Iv:=⟨Hm a.lo b.lo,Hm a.hi b.hi⟩
theorem Gi {a b:Iv} {x y:Int} (ha:a.ok x) (hb:b.ok y):(B2 a b).ok (x+y):=by
 refine⟨fun l O => ?_,fun l O => ?_⟩
 ·obtain⟨p,q,hp,hq,rfl⟩:=Xg O
  have:=ha.1 p hp
  have:=hb.1 q hq
  omega
 ·obtain⟨p,q,hp,hq,rfl⟩:=Xg O
  have:=ha.2 p hp
  have:=hb.2 q hq
  omega
def XJ:Option Int->Option Int
 | some a=>some (-a)
 | none=>none
def Np (a:Iv):Iv:=⟨XJ a.hi,XJ a.lo⟩
theorem VW {a:Iv} {x:Int} (ha:a.ok x):(Np a).ok (-x):=by
 obtain⟨lo,hi⟩:=a
 refine⟨fun l O => ?_,fun l O => ?_⟩
 ·cases hi with
  | none=>cases O
  | some h=>cases O;have:=ha.2 h rfl;omega
 ·cases lo with
  | none=>cases O
  | some h=>cases O;have:=ha.1 h rfl;omega
def te (a b:Int):Int:=if a<b then a else b
def imax (a b:Int):Int:=if a<b then b else a
def Gl:Iv->Iv->Iv
 | ⟨some a,some b⟩,⟨some c,some d⟩=>⟨some (te (te (a*c) (a*d)) (te (b*c) (b*d))),some (imax (imax (a*c) (a*d)) (imax (b*c) (b*d)))⟩
 | _,_=>⟨none,none⟩
theorem Ot {x c d y:Int} (A:c<=y) (E:y<=d):te (x*c) (x*d)<=x*y/\x*y<=imax (x*c) (x*d):=by
 unfold te imax
 rcases Int.le_total 0 x with h | h
 ·have bp:=Int.mul_le_mul_of_nonneg_left A h
  have bj:=Int.mul_le_mul_of_nonneg_left E h
  constructor<;>split<;>omega
 ·have bp:=Int.mul_le_mul_of_nonpos_left h A
  have bj:=Int.mul_le_mul_of_nonpos_left h E
  constructor<;>split<;>omega
theorem VV {Y v:Iv} {x y:Int} (hu:Y.ok x) (R:v.ok y):(Gl Y v).ok (x*y):=by
 unfold Gl
 split
 ·rename_i a b c d
  have bp:=hu.1 a rfl
  have bj:=hu.2 b rfl
  have c1:=R.1 c rfl
  have c2:=R.2 d rfl
  obtain⟨m1,m2⟩:=Ot (x:=x) c1 c2
  obtain⟨p1,p2⟩:=Ot (x:=c) bp bj
  obtain⟨q1,q2⟩:=Ot (x:=d) bp bj
  rw[Int.mul_comm c x,Int.mul_comm c a,Int.mul_comm c b]at p1 p2
  rw[Int.mul_comm d x,Int.mul_comm d a,Int.mul_comm d b]at q1 q2
  refine⟨fun l O => ?_,fun l O => ?_⟩
  ·cases O
   revert m1 p1 q1
   unfold te
   intro m1 p1 q1
   split at m1<;>split at p1<;>split at q1<;>(repeat' split)<;>omega
  ·cases O
   revert m2 p2 q2
   unfold imax
   intro m2 p2 q2
   split at m2<;>split at p2<;>split at q2<;>(repeat' split)<;>omega
 ·exact Iv.lK _
def Nn:Iv->Iv->Iv
 | ⟨a,b⟩,⟨c,d⟩=>⟨match a,c with | some a,some c=>some (te a c) | _,_=>none,match b,d with | some b,some d=>some (imax b d) | _,_=>none⟩
theorem ahh {Y v:Iv} {x:Int} (h:Y.ok x\/v.ok x):(Nn Y v).ok x:=by
 obtain⟨a,b⟩:=Y
 obtain⟨c,d⟩:=v
 unfold Nn
 refine⟨fun l O => ?_,fun l O => ?_⟩
 ·simp only at O
  split at O
  ·cases O
   unfold te
   rcases h with h | h
   ·have:=h.1 _ rfl;split<;>omega
   ·have:=h.1 _ rfl;split<;>omega
  ·cases O
 ·simp only at O
  split at O
  ·cases O
   unfold imax
   rcases h with h | h
   ·have:=h.2 _ rfl;split<;>omega
   ·have:=h.2 _ rfl;split<;>omega
  ·cases O
def yo:IntKind->Iv->Iv
 | .i64,⟨some a,some b⟩=>if decide (-9223372036854775808<=a)&&decide (b<9223372036854775808)then⟨some a,some b⟩else⟨none,none⟩
 | .u64,⟨some a,some b⟩=>if decide (0<=a)&&decide (b<18446744073709551616)then⟨some a,some b⟩else⟨some 0,some 18446744073709551615⟩
 | .u64,_=>⟨some 0,some 18446744073709551615⟩
 | _,_=>⟨none,none⟩
theorem u64_in (x:Int) (h0:0<=x) (A:x<18446744073709551616):IntKind.u64.wrap x=x:=by
 have e:IntKind.u64.wrap x=x % 18446744073709551616:=by simp[IntKind.wrap,IntKind.bits,IntKind.signed]
 rw[e];omega
theorem aav (x:Int):0<=IntKind.u64.wrap x/\IntKind.u64.wrap x<=18446744073709551615:=by
 have e:IntKind.u64.wrap x=x % 18446744073709551616:=by simp[IntKind.wrap,IntKind.bits,IntKind.signed]
 rw[e];omega
theorem Gk {k:IntKind} {v:Iv} {x:Int} (h:v.ok x):(yo k v).ok (k.wrap x):=by
 unfold yo
 split
 ·split
  ·rename_i H
   simp only[Bool.and_eq_true,decide_eq_true_eq]at H
   have A:=h.1 _ rfl
   have E:=h.2 _ rfl
   rw[IntWalk.i64_in x ⟨by omega,by omega⟩]
   exact h
  ·exact Iv.lK _
 ·split
  ·rename_i H
   simp only[Bool.and_eq_true,decide_eq_true_eq]at H
   have A:=h.1 _ rfl
   have E:=h.2 _ rfl
   rw[u64_in x (by omega) (by omega)]
   exact h
  ·have:=aav x
   exact⟨fun l O=>by cases O;omega,fun l O=>by cases O;omega⟩
 ·have:=aav x
  exact⟨fun l O=>by cases O;omega,fun l O=>by cases O;omega⟩
 ·exact Iv.lK _
def No:IntKind->Iv->Iv
 | .i64,⟨some a,some b⟩=>if decide (0<=a)&&decide (b<9223372036854775808)then⟨some 0,some b⟩else⟨none,none⟩
 | .u64,⟨some a,some b⟩=>if decide (0<=a)&&decide (b<9223372036854775808)then⟨some 0,some b⟩else⟨none,none⟩
 | _,_=>⟨none,none⟩
theorem yD (k:IntKind) (u:k = .i64\/k = .u64) (x m:Int) (h0:0<=m) (A:m<9223372036854775808):0<=bits .and k x m/\bits .and k x m<=m:=by
 have key:∀a:BitVec 64,((a &&& BitVec.ofInt 64 m).toNat:Int)<=m:=fun a=>by
  have e:(BitVec.ofInt 64 m).toNat=m.toNat:=by
   rw[BitVec.toNat_ofInt]
   omega
  have:=Nat.and_le_right (n:=a.toNat) (m:=m.toNat)
  rw[BitVec.toNat_and,e]
  omega
 rcases u with rfl | rfl
 ·have e:bits .and .i64 x m=IntKind.i64.wrap ((BitVec.ofInt 64 x &&& BitVec.ofInt 64 m).toNat:Int):=rfl
  have:=key (BitVec.ofInt 64 x)
  rw[e,IntWalk.i64_in _ ⟨by omega,by omega⟩]
  exact⟨by omega,this⟩
 ·have e:bits .and .u64 x m=IntKind.u64.wrap ((BitVec.ofInt 64 x &&& BitVec.ofInt 64 m).toNat:Int):=rfl
  have:=key (BitVec.ofInt 64 x)
  rw[e,u64_in _ (by omega) (by omega)]
  exact⟨by omega,this⟩
theorem ahi {k:IntKind} {v:Iv} {x m:Int} (h:v.ok m):(No k v).ok (bits .and k x m):=by
 unfold No
 split
 ·split
  ·rename_i H
   simp only[Bool.and_eq_true,decide_eq_true_eq]at H
   have A:=h.1 _ rfl
   have E:=h.2 _ rfl
   have:=yD .i64 (.inl rfl) x m (by omega) (by omega)
   exact⟨fun l O=>by cases O;omega,fun l O=>by cases O;omega⟩
  ·exact Iv.lK _
 ·split
  ·rename_i H
   simp only[Bool.and_eq_true,decide_eq_true_eq]at H
   have A:=h.1 _ rfl
   have E:=h.2 _ rfl
   have:=yD .u64 (.inr rfl) x m (by omega) (by omega)
   exact⟨fun l O=>by cases O;omega,fun l O=>by cases O;omega⟩
  ·exact Iv.lK _
 ·exact Iv.lK _
def Nq:a_->IntKind->Iv->Iv->Iv
 | .cY,_,a,b=>B2 a b
 | .fT,_,a,b=>B2 a (Np b)
 | .nw,_,a,b=>Gl a b
 | .add,k,a,b=>yo k (B2 a b)
 | .sub,k,a,b=>yo k (B2 a (Np b))
 | .mul,k,a,b=>yo k (Gl a b)
 | .conv,k,a,_=>yo k a
 | .and,k,_,b=>No k b
 | .max,_,a,b=>⟨Hz a.lo b.lo,none⟩
 | _,_,_,_=>⟨none,none⟩
theorem ahj {o:a_} {k:IntKind} {Y v:Iv} {x y:Int} (hu:Y.ok x) (R:v.ok y):(Nq o k Y v).ok (o.I k x y):=by
 unfold Nq
 split<;>simp only[a_.I]
 ·exact Gi hu R
 ·rw[Int.sub_eq_add_neg];exact Gi hu (VW R)
 ·exact VV hu R
 ·exact Gk (Gi hu R)
 ·rw[Int.sub_eq_add_neg];exact Gk (Gi hu (VW R))
 ·exact Gk (VV hu R)
 ·exact Gk hu
 ·exact ahi R
 ·refine⟨fun l O => ?_,fun _ h=>by cases h⟩
  cases a3:Y.lo with
  | none =>
   cases oq:v.lo with
   | none=>rw[a3,oq]at O;cases O
   | some b=>rw[a3,oq]at O;cases O;have:=R.1 _ oq;omega
  | some a =>
   have:=hu.1 _ a3
   cases oq:v.lo with
   | none=>rw[a3,oq]at O;cases O;omega
   | some b =>
    have:=R.1 _ oq
    rw[a3,oq]at O
    simp only[Hz,Option.some.injEq]at O
    split at O<;>omega
 ·exact Iv.lK _
def fM (B:J):U->Iv
 | .op o k a b=>(B3 (.op o k a b) B).meet (Nq o k (fM B a) (fM B b))
 | .ite c a b=>(B3 (.ite c a b) B).meet (Nn (fM B a) (fM B b))
 | e=>B3 e B
theorem g' {ρ:aa} {B:J} (u:J.ok ρ B):∀e:U,(fM B e).ok (e.I ρ)
 | .op o k a b=>by
  simp only[fM]
  refine Iv.N2 (pH u) ?_
  simp only[U.I]
  exact ahj (g' u a) (g' u b)
 | .ite c a b=>by
  simp only[fM]
  refine Iv.N2 (pH u) (ahh ?_)
  simp only[U.I]
  split
  ·exact .inl (g' u a)
  ·exact .inr (g' u b)
 | .lit _=>pH u
 | .var _=>pH u
 | .cl _ _ _=>pH u
 | .len _=>pH u
 | .cm _=>pH u
 | .fJ _ _=>pH u
 | .uf _ _ _=>pH u
def E1 (a b:U):BE×Bool->Option Int
 | (.lt x y,true)=>if(base x).1.beq a&&(base y).1.beq b then some ((base y).2-(base x).2-1)else none
 | (.lt x y,false)=>if(base y).1.beq a&&(base x).1.beq b then some ((base x).2-(base y).2)else none
 | _=>none
theorem aeu {ρ:aa} {a b:U} {p:BE×Bool} {k:Int} (h:p.1.I ρ=p.2) (hd:E1 a b p=some k):a.I ρ-b.I ρ<=k:=by
 unfold E1 at hd
 split at hd
 ·rename_i x y
  split at hd
  ·rename_i H
   simp only[Bool.and_eq_true]at H
   cases hd
   simp only[BE.I]at h
   have h:=of_decide_eq_true h
   rw[mW ρ x,mW ρ y,U.beq_eq _ _ H.1,U.beq_eq _ _ H.2]at h
   omega
  ·cases hd
 ·rename_i x y
  split at hd
  ·rename_i H
   simp only[Bool.and_eq_true]at H
   cases hd
   simp only[BE.I]at h
   have h:=of_decide_eq_false h
   rw[mW ρ x,mW ρ y,U.beq_eq _ _ H.1,U.beq_eq _ _ H.2]at h
   omega
  ·cases hd
 ·cases hd
def uY (a b:U):J->Option Int
 | []=>none
 | p::B=>yU (E1 a b p) (uY a b B)
theorem AI {ρ:aa} {a b:U}:∀{B:J} {k:Int},J.ok ρ B->uY a b B=some k->a.I ρ-b.I ρ<=k
 | [],_,_,h=>by cases h
 | p::B,k,u,h=>by
  have A:=J.wj u
  simp only[uY]at h
  cases e1:E1 a b p with
  | none =>
   rw[e1]at h
   simp only[yU]at h
   exact AI A.2 h
  | some x =>
   have hx:=aeu A.1 e1
   rw[e1]at h
   cases e2:uY a b B with
   | none=>rw[e2]at h;simp only[yU,Option.some.injEq]at h;omega
   | some y =>
    have hy:=AI A.2 e2
    rw[e2]at h
    simp only[yU,Option.some.injEq]at h
    split at h<;>omega
def xA (B:J) (a b:U):Option Bool :=
 match uY (base a).1 (base b).1 B with
 | some k=>if k<(base b).2-(base a).2 then some true else(match uY (base b).1 (base a).1 B with
  | some k=>if k<=(base a).2-(base b).2 then some false else none
  | none=>none)
 | none=>match uY (base b).1 (base a).1 B with
  | some k=>if k<=(base a).2-(base b).2 then some false else none
  | none=>none
theorem xB {ρ:aa} {B:J} (u:J.ok ρ B) {a b:U} {r:Bool} (h:xA B a b=some r):(BE.lt a b).I ρ=r:=by
 simp only[BE.I]
 rw[mW ρ a,mW ρ b]
 unfold xA at h
 split at h
 ·rename_i k e1
  have:=AI u e1
  split at h
  ·cases h;exact decide_eq_true (by omega)
  ·split at h
   ·rename_i k2 e2
    have:=AI u e2
    split at h
    ·cases h;exact decide_eq_false (by omega)
    ·cases h
   ·cases h
 ·split at h
  ·rename_i k2 e2
   have:=AI u e2
   split at h
   ·cases h;exact decide_eq_false (by omega)
   ·cases h
  ·cases h
def rj (v:Iv):Bool:=match v.lo,v.hi with
 | some l,some h=>decide (-9223372036854775808<=l)&&decide (h<9223372036854775808)
 | _,_=>false
theorem vK {v:Iv} {x:Int} (h:v.ok x) (hi:rj v=true):IntKind.i64.wrap x=x:=by
 unfold rj at hi
 split at hi
 ·rename_i l Y O hu
  simp only[Bool.and_eq_true,decide_eq_true_eq]at hi
  have:=h.1 l O
  have:=h.2 Y hu
  exact IntWalk.i64_in x ⟨by omega,by omega⟩
 ·cases hi
def yY:U->U->U
 | .op .cY k a (.lit c),.lit d => .op .cY k a (.lit (c+d))
 | a,b => .op .cY .i64 a b
theorem HJ (ρ:aa) (a b:U):(yY a b).I ρ=a.I ρ+b.I ρ:=by
 unfold yY
 split<;>simp only[U.I,a_.I]<;>omega
def fz (B:J):U->U
 | .op .add .i64 a b=>if rj (fM B (yY (fz B a) (fz B b)))=true then yY (fz B a) (fz B b)else .op .add .i64 a b
 | .op .sub .i64 a (.lit c)=>if rj (fM B (yY (fz B a) (.lit (-c))))=true then yY (fz B a) (.lit (-c))else .op .sub .i64 a (.lit c)
 | .op .mul .i64 a b=>if rj (fM B (mkMul (fz B a) (fz B b)))=true then mkMul (fz B a) (fz B b)else .op .mul .i64 a b
 | .op .conv .i64 a b=>if rj (fM B (fz B a))=true then fz B a else .op .conv .i64 a b
 | e=>e
theorem CC {ρ:aa} {B:J} (u:J.ok ρ B) (e:U):(fz B e).I ρ=e.I ρ:=by
 fun_induction fz B e with
 | case1 a b h es ex =>
  have A:=vK (g' u _) h
  rw[HJ,es,ex]at A
  rw[HJ,es,ex]
  exact A.symm
 | case2=>rfl
 | case3 a c h ih =>
  have A:=vK (g' u _) h
  rw[HJ,ih]at A
  rw[HJ,ih]
  simp only[U.I,a_.I]at A ⊢
  rw[Int.sub_eq_add_neg];exact A.symm
 | case4=>rfl
 | case5 a b h es ex =>
  have A:=vK (g' u _) h
  rw[yJ,es,ex]at A
  rw[yJ,es,ex]
  exact A.symm
 | case6=>rfl
 | case7 a b h ih =>
  have A:=vK (g' u _) h
  rw[ih]at A
  rw[ih]
  exact A.symm
 | case8=>rfl
 | case9=>rfl
def Gd:U->Bool
 | .op .add _ _ _=>true
 | .op .sub _ _ _=>true
 | .op .mul _ _ _=>true
 | .op .conv _ _ _=>true
 | _=>false
def OR (B:J) (a b:U):Option Bool :=
 if(Gd a||Gd b)=true then
  let a:=fz B a
  let b:=fz B b
  if(base a).1.beq (base b).1=true then some (decide ((base a).2<(base b).2))
  else match yp (fM B a) (fM B b)with
   | some v=>some v
   | none=>xA B a b
 else none
theorem ajm {ρ:aa} {B:J} (u:J.ok ρ B) {a b:U} {r:Bool} (h:OR B a b=some r):(BE.lt a b).I ρ=r:=by
 unfold OR at h
 split at h
 ·simp only at h
  rw[BE.I,<-CC u a,<-CC u b]
  split at h
  ·rename_i hb
   cases h
   rw[mW ρ (fz B a),mW ρ (fz B b),U.beq_eq _ _ hb]
   exact decide_eq_decide.2 (by omega)
  ·split at h
   ·rename_i A;cases h;exact yq (g' u _) (g' u _) A
   ·exact xB u h
 ·cases h
def OP (B:J) (a b:U):Option Bool :=
 if(Gd a||Gd b)=true then
  let a:=fz B a
  let b:=fz B b
  if(base a).1.beq (base b).1=true then some (decide ((base a).2=(base b).2))
  else match Gj (fM B a) (fM B b)with
   | some v=>some v
   | none=>match xA B a b,xA B b a with
    | some true,_=>some false
    | _,some true=>some false
    | some false,some false=>some true
    | _,_=>none
 else none
theorem ajl {ρ:aa} {B:J} (u:J.ok ρ B) {a b:U} {r:Bool} (h:OP B a b=some r):(BE.eq a b).I ρ=r:=by
 unfold OP at h
 split at h
 ·simp only at h
  rw[BE.I,<-CC u a,<-CC u b]
  split at h
  ·rename_i hb
   cases h
   rw[mW ρ (fz B a),mW ρ (fz B b),U.beq_eq _ _ hb,Bool.eq_iff_iff,beq_iff_eq,decide_eq_true_eq]
   omega
  ·split at h
   ·rename_i A;cases h;exact VU (g' u _) (g' u _) A
   ·split at h
    ·rename_i A
     have A:=of_decide_eq_true (xB (ρ:=ρ) u A)
     cases h;exact beq_eq_false_iff_ne.2 (by omega)
    ·rename_i A _
     have A:=of_decide_eq_true (xB (ρ:=ρ) u A)
     cases h;exact beq_eq_false_iff_ne.2 (by omega)
    ·rename_i A E
     have A:=of_decide_eq_false (xB (ρ:=ρ) u A)
     have E:=of_decide_eq_false (xB (ρ:=ρ) u E)
     cases h;exact beq_iff_eq.2 (by omega)
    ·cases h
 ·cases h
def pM (c:BE):J->Option Bool
 | []=>none
 | (d,v)::r=>if d.beq c=true then some v else pM c r
theorem oD {ρ:aa} {c:BE} {v:Bool}:∀{B:J},J.ok ρ B->pM c B=some v->c.I ρ=v
 | [],_,h=>by cases h
 | (d,Y)::r,u,h=>by
  simp only[pM]at h
  split at h
  ·rename_i hb;cases h;rw[<-BE.beq_eq _ _ hb];exact(J.wj u).1
  ·exact oD (J.wj u).2 h
def z_ (c:BE):Option Bool->BE
 | some v => .lit v
 | none=>c
theorem xg {ρ:aa} {c:BE} {o:Option Bool} (h:∀v,o=some v->c.I ρ=v):(z_ c o).I ρ=c.I ρ:=by
 cases o with
 | none=>rfl
 | some v=>simp only[z_,BE.I];exact(h v rfl).symm
def rO:Option Bool->Option Bool->Option Bool
 | some v,_=>some v
 | none,b=>b
def red (B:J):BE->BE
 | .not a=>mkNot (red B a)
 | .and a b=>match pM (.and a b) B with
  | some v => .lit v
  | none=>mkAnd (red B a) (red B b)
 | .or a b=>match pM (.or a b) B with
  | some v => .lit v
  | none=>mkOr (red B a) (red B b)
 | .ite c a b=>match pM (.ite c a b) B with
  | some v => .lit v
  | none=>iF (red B c) (red B a) (red B b)
 | .lit b => .lit b
 | .lt a b=>z_ (.lt a b) (rO (yp (fM B a) (fM B b)) (rO (pM (.lt a b) B) (rO (xA B a b) (OR B a b))))
 | .eq a b=>z_ (.eq a b) (rO (Gj (fM B a) (fM B b)) (rO (pM (.eq a b) B) (rO (pM (.eq b a) B) (OP B a b))))
 | c=>z_ c (pM c B)
theorem dc {ρ:aa} {B:J} (u:J.ok ρ B):∀c:BE,(red B c).I ρ=c.I ρ
 | .not a=>by simp only[red,eA,BE.I,dc u a]
 | .and a b=>by
  simp only[red]
  split
  ·rename_i v R;rw[oD u R];rfl
  ·simp only[fQ,BE.I,dc u a,dc u b]
 | .or a b=>by
  simp only[red]
  split
  ·rename_i v R;rw[oD u R];rfl
  ·simp only[oI,BE.I,dc u a,dc u b]
 | .ite c a b=>by
  simp only[red]
  split
  ·rename_i v R;rw[oD u R];rfl
  ·simp only[kM,BE.I,dc u c,dc u a,dc u b]
 | .lit b=>rfl
 | .lt a b=>by
  refine xg fun v R => ?_
  unfold rO at R
  split at R
  ·rename_i A;cases R;exact yq (g' u a) (g' u b) A
  ·split at R
   ·rename_i A;cases R;exact oD u A
   ·split at R
    ·rename_i A;cases R;exact xB u A
    ·exact ajm u R
 | .eq a b=>by
  refine xg fun v R => ?_
  unfold rO at R
  split at R
  ·rename_i A;cases R;exact VU (g' u a) (g' u b) A
  ·split at R
   ·rename_i A;cases R;exact oD u A
   ·split at R
    ·rename_i A
     cases R
     have E:=oD u A
     simp only[BE.I]at E ⊢
     rw[<-E,Bool.eq_iff_iff,beq_iff_eq,beq_iff_eq]
     exact⟨Eq.symm,Eq.symm⟩
    ·exact ajl u R
 | .var i=>xg fun v R=>oD u R
 | .cl l k j=>xg fun v R=>oD u R
 | .seq a b=>xg fun v R=>oD u R
 | .slt a b=>xg fun v R=>oD u R
def assume:BE->Bool->J->J
 | .not a,v,B=>assume a (!v) B
 | .and a b,true,B=>assume a true (assume b true B)
 | .or a b,false,B=>assume a false (assume b false B)
 | .lit _,_,B=>B
 | c,v,B=>(c,v)::B
theorem gu {ρ:aa}:∀(c:BE) (v:Bool) (B:J),c.I ρ=v->J.ok ρ B->J.ok ρ (assume c v B):=by
 intro c v B
 fun_induction assume c v B with
 | case1 a v B ih=>intro h u;simp only[BE.I]at h;exact ih (by rw[<-h];simp) u
 | case2 a b B es ex=>intro h u;simp only[BE.I,Bool.and_eq_true]at h;exact ex h.1 (es h.2 u)
 | case3 a b B es ex=>intro h u;simp only[BE.I,Bool.or_eq_false_iff]at h;exact ex h.1 (es h.2 u)
 | case4=>intro _ u;exact u
 | case5=>intro h u;exact J.aw h u
inductive T (am:Type) where
 | ret (a:am)
 | br (c:BE) (x y:T am)
 | cT (c:BE) (x:T am)
 | fail (zJ:List String)
noncomputable def T.aq {am:Type} (ρ:aa):T am->Option am
 | .ret a=>some a
 | .br c x y=>if c.I ρ=true then x.aq ρ else y.aq ρ
 | .cT c x=>if c.I ρ=true then x.aq ρ else none
 | .fail _=>none
def T.bind {am β:Type} (B:J) (f:J->am->T β):T am->T β
 | .ret a=>f B a
 | .br c x y => .br c (x.bind (assume c true B) f) (y.bind (assume c false B) f)
 | .cT c x => .cT c (x.bind (assume c true B) f)
 | .fail w => .fail w
theorem T.cZ {am β:Type} {ρ:aa} {f:J->am->T β} {b:β}:∀(t:T am) {B:J},J.ok ρ B->(t.bind B f).aq ρ=some b->∃aQ a,J.ok ρ aQ/\t.aq ρ=some a/\(f aQ a).aq ρ=some b
 | .ret a,B,u,h=>⟨B,a,u,rfl,h⟩
 | .br c x y,B,u,h=>by
  simp only[T.bind,T.aq]at h ⊢
  split at h
  ·rename_i H;rw[if_pos H];exact T.cZ x (gu c true B H u) h
  ·rename_i H;rw[if_neg H];exact T.cZ y (gu c false B (by simpa using H) u) h
 | .cT c x,B,u,h=>by
  simp only[T.bind,T.aq]at h ⊢
  split at h
  ·rename_i H;rw[if_pos H];exact T.cZ x (gu c true B H u) h
  ·cases h
 | .fail _,_,_,h=>by cases h
def T.map {am β:Type} (f:am->β):T am->T β
 | .ret a => .ret (f a)
 | .br c x y => .br c (x.map f) (y.map f)
 | .cT c x => .cT c (x.map f)
 | .fail w => .fail w
theorem T.jk {am β:Type} {ρ:aa} {f:am->β} {b:β}:∀(t:T am),(t.map f).aq ρ=some b->∃a,t.aq ρ=some a/\b=f a
 | .ret a,h=>by cases h;exact⟨a,rfl,rfl⟩
 | .br c x y,h=>by
  simp only[T.map,T.aq]at h ⊢
  split at h
  ·rename_i H;rw[if_pos H];exact T.jk x h
  ·rename_i H;rw[if_neg H];exact T.jk y h
 | .cT c x,h=>by
  simp only[T.map,T.aq]at h ⊢
  split at h
  ·rename_i H;rw[if_pos H];exact T.jk x h
  ·cases h
 | .fail _,h=>by cases h
def tm {am:Type} (w:String):T am->T am
 | .fail [] => .fail [w]
 | t=>t
theorem Qd {am:Type} {ρ:aa} {w:String} {t:T am}:(tm w t).aq ρ=t.aq ρ:=by
 unfold tm;split<;>rfl
def T.zJ {am:Type}:T am->List String
 | .ret _=>[]
 | .br _ x y=>match x.zJ with
  | []=>y.zJ
  | w=>w
 | .cT _ x=>x.zJ
 | .fail w=>w
def part {am:Type} (B:J) (c:BE) (x y:J->T am):T am :=
 match red B c with
 | .lit true=>x B
 | .lit false=>y B
 | d => .br d (x (assume d true B)) (y (assume d false B))
theorem Zs {am:Type} {ρ:aa} {B:J} {c:BE} {x y:J->T am} {a:am} (u:J.ok ρ B) (h:(part B c x y).aq ρ=some a):∃aQ,J.ok ρ aQ/\((c.I ρ=true/\(x aQ).aq ρ=some a)\/(c.I ρ=false/\(y aQ).aq ρ=some a)):=by
 have hr:=dc u c
 unfold part at h
 split at h
 ·rename_i hd;rw[hd]at hr;exact⟨B,u,.inl ⟨hr.symm,h⟩⟩
 ·rename_i hd;rw[hd]at hr;exact⟨B,u,.inr ⟨hr.symm,h⟩⟩
 ·simp only[T.aq]at h
  split at h
  ·rename_i H;exact⟨_,gu _ true B H u,.inl ⟨by rw[<-hr];exact H,h⟩⟩
  ·rename_i H;exact⟨_,gu _ false B (by simpa using H) u,.inr ⟨by rw[<-hr];simpa using H,h⟩⟩
def want {am:Type} (B:J) (c:BE) (x:J->T am):T am :=
 match red B c with
 | .lit true=>x B
 | .lit false=>(.fail [])
 | d => .cT d (x (assume d true B))
theorem c4 {am:Type} {ρ:aa} {B:J} {c:BE} {x:J->T am} {a:am} (u:J.ok ρ B) (h:(want B c x).aq ρ=some a):∃aQ,J.ok ρ aQ/\c.I ρ=true/\(x aQ).aq ρ=some a:=by
 have hr:=dc u c
 unfold want at h
 split at h
 ·rename_i hd;rw[hd]at hr;exact⟨B,u,hr.symm,h⟩
 ·cases h
 ·simp only[T.aq]at h
  split at h
  ·rename_i H;exact⟨_,gu _ true B H u,by rw[<-hr];exact H,h⟩
  ·cases h
end Go.Proofs.Xw
namespace Go.Proofs.Xw
open Go Go.Proofs.Aw
def mkAdd:U->U->U
 | .lit m,.lit n => .lit (m+n)
 | .op .fT k a (.lit m),.lit n=>if n==m then a else .op .cY .i64 (.op .fT k a (.lit m)) (.lit n)
 | .lit n,.op .fT k a (.lit m)=>if n==m then a else .op .cY .i64 (.lit n) (.op .fT k a (.lit m))
 | .op .cY j b (.lit n),.op .fT k a (.lit m)=>if n==m then .op .cY .i64 b a else .op .cY .i64 (.op .cY j b (.lit n)) (.op .fT k a (.lit m))
 | a,.lit n=>if n==0 then a else .op .cY .i64 a (.lit n)
 | .lit n,b=>if n==0 then b else .op .cY .i64 (.lit n) b
 | a,b => .op .cY .i64 a b
theorem fo (ρ:aa) (a b:U):(mkAdd a b).I ρ=a.I ρ+b.I ρ:=by
 unfold mkAdd
 split
 ·simp[U.I]
 ·split
  ·rename_i h;simp only[beq_iff_eq]at h;subst h;simp only[U.I,a_.I];omega
  ·simp[U.I,a_.I]
 ·split
  ·rename_i h;simp only[beq_iff_eq]at h;subst h;simp only[U.I,a_.I];omega
  ·simp[U.I,a_.I]
 ·split
  ·rename_i h;simp only[beq_iff_eq]at h;subst h;simp only[U.I,a_.I];omega
  ·simp[U.I,a_.I]
 ·split
  ·rename_i h;simp only[beq_iff_eq]at h;subst h;simp[U.I]
  ·simp[U.I,a_.I]
 ·split
  ·rename_i h;simp only[beq_iff_eq]at h;subst h;simp[U.I]
  ·simp[U.I,a_.I]
 ·simp[U.I,a_.I]
def mkSub:U->U->U
 | .lit m,.lit n => .lit (m-n)
 | .op .cY k a b,c=>if a.beq c=true then b else if b.beq c=true then a else .op .fT .i64 (.op .cY k a b) c
 | a,.lit n=>if n==0 then a else .op .fT .i64 a (.lit n)
 | a,b=>if a.beq b=true then .lit 0 else .op .fT .i64 a b
theorem nq (ρ:aa) (a b:U):(mkSub a b).I ρ=a.I ρ-b.I ρ:=by
 unfold mkSub
 split
 ·simp[U.I]
 ·split
  ·rename_i h;rw[<-U.beq_eq _ _ h];simp only[U.I,a_.I];omega
  ·split
   ·rename_i h;rw[<-U.beq_eq _ _ h];simp only[U.I,a_.I];omega
   ·simp[U.I,a_.I]
 ·split
  ·rename_i h;simp only[beq_iff_eq]at h;subst h;simp[U.I]
  ·simp[U.I,a_.I]
 ·split
  ·rename_i h;rw[U.beq_eq _ _ h];simp[U.I]
  ·simp[U.I,a_.I]
inductive Kd where
 | i (k:IntKind) | b | s
inductive Sc where
 | i (k:IntKind) (e:U) | b (e:BE) | s (e:TE) | f (n:U) (z:BE) | c (n:U) (z:BE) (m:U) (y:BE)
instance:Inhabited Sc:=⟨.b default⟩
noncomputable def Sc.I (ρ:aa):Sc->Value
 | .i k e => .int k (e.I ρ)
 | .b e => .bool (e.I ρ)
 | .s e => .string (e.I ρ)
 | .f n z => .float .f64 (fv (n.I ρ) (z.I ρ))
 | .c n z m y => .complex .f64 (fv (n.I ρ) (z.I ρ)) (fv (m.I ρ) (y.I ρ))
def Sc.beq:Sc->Sc->Bool
 | .i k e,.i k' e'=>mw k k'&&e.beq e'
 | .b e,.b e'=>e.beq e'
 | .s e,.s e'=>e.beq e'
 | .f n z,.f n' z'=>n.beq n'&&z.beq z'
 | .c n z m y,.c n' z' m' DQ=>n.beq n'&&(z.beq z'&&(m.beq m'&&y.beq DQ))
 | _,_=>false
theorem Sc.beq_eq {a b:Sc} (h:a.beq b=true):a=b:=by
 cases a<;>cases b<;>simp[Sc.beq]at h ⊢
 ·exact⟨ox h.1,U.beq_eq _ _ h.2⟩
 ·exact BE.beq_eq _ _ h
 ·exact TE.beq_eq _ _ h
 ·exact⟨U.beq_eq _ _ h.1,BE.beq_eq _ _ h.2⟩
 ·exact⟨U.beq_eq _ _ h.1,BE.beq_eq _ _ h.2.1,U.beq_eq _ _ h.2.2.1,BE.beq_eq _ _ h.2.2.2⟩
def GQ (c:BE):Sc->Sc->Option Sc
 | .i k a,.i k' b=>if mw k k'=true then some (.i k (lF c a b))else none
 | .b a,.b b=>some (.b (iF c a b))
 | .s a,.s b=>some (.s (GZ c a b))
 | .f n z,.f n' z'=>some (.f (lF c n n') (iF c z z'))
 | .c n z m y,.c n' z' m' DQ=>some (.c (lF c n n') (iF c z z') (lF c m m') (iF c y DQ))
 | _,_=>none
theorem Wu {ρ:aa} {c:BE} {a b s:Sc} (h:GQ c a b=some s):s.I ρ=if c.I ρ=true then a.I ρ else b.I ρ:=by
 cases a<;>cases b<;>simp only[GQ,reduceCtorEq,Option.some.injEq]at h
 ·split at h
  ·rename_i u
   cases h
   rw[<-ox u]
   simp only[Sc.I,tw]
   split<;>rfl
  ·cases h
 ·subst h;simp only[Sc.I,kM];split<;>rfl
 ·subst h;simp only[Sc.I,WE];split<;>rfl
 ·subst h;simp only[Sc.I,tw,kM];split<;>rfl
 ·subst h;simp only[Sc.I,tw,kM];split<;>rfl
noncomputable def cd (ρ:aa) (r:List Sc):List AV:=r.map fun s => .sc (s.I ρ)
def np (c:BE):List Sc->List Sc->Option (List Sc)
 | [],[]=>some []
 | a::aG,b::bs=>match GQ c a b,np c aG bs with
  | some s,some r=>some (s::r)
  | _,_=>none
 | _,_=>none
theorem vW {ρ:aa} {c:BE}:∀{a b s:List Sc},np c a b=some s->cd ρ s=if c.I ρ=true then cd ρ a else cd ρ b
 | [],[],s,h=>by simp only[np,Option.some.injEq]at h;subst h;simp
 | a::aG,b::bs,s,h=>by
  simp only[np]at h
  split at h
  ·rename_i x r A E
   cases h
   have e1:=Wu (ρ:=ρ) A
   have e2:=vW (ρ:=ρ) E
   simp only[cd,List.map_cons]at e2 ⊢
   rw[e1,e2]
   split<;>rfl
  ·cases h
 | [],_::_,_,h=>by simp[np]at h
 | _::_,[],_,h=>by simp[np]at h
inductive RL where
 | var (l:Nat) (ks:List Kd)
 | one (r:List Sc)
 | app (n:U) (a b:RL)
 | drop (n:U) (a:RL)
 | eN (i:U) (r:List Sc) (a:RL)
 | ite (c:BE) (a b:RL)
def bR (ρ:aa) (l:Nat):Nat->List Kd->Nat->List AV
 | _,[],_=>[]
 | k,.i K::ks,j => .sc (.int K (ρ.ci l k j))::bR ρ l (k+1) ks j
 | k,.b::ks,j => .sc (.bool (ρ.cb l k j))::bR ρ l (k+1) ks j
 | k,.s::ks,j => .sc (.string (ρ.cs l k j))::bR ρ l (k+1) ks j
noncomputable def RL.row (ρ:aa):RL->Int->List AV
 | .var l ks,j=>bR ρ l 0 ks j.toNat
 | .one r,_=>cd ρ r
 | .app n a b,j=>if j<n.I ρ then a.row ρ j else b.row ρ (j-n.I ρ)
 | .drop n a,j=>a.row ρ (j+n.I ρ)
 | .eN i r a,j=>if j=i.I ρ then cd ρ r else a.row ρ j
 | .ite c a b,j=>if c.I ρ=true then a.row ρ j else b.row ρ j
def qC (l:Nat) (j:U):Nat->List Kd->List Sc
 | _,[]=>[]
 | k,.i K::ks => .i K (.cl l k j)::qC l j (k+1) ks
 | k,.b::ks => .b (.cl l k j)::qC l j (k+1) ks
 | k,.s::ks => .s (.cl l k j)::qC l j (k+1) ks
theorem Ao (ρ:aa) (l:Nat) (j:U):∀(k:Nat) (ks:List Kd),cd ρ (qC l j k ks)=bR ρ l k ks (j.I ρ).toNat
 | _,[]=>rfl
 | k,.i K::ks=>by simp only[qC,bR,cd,List.map_cons,Sc.I,U.I];exact congrArg _ (Ao ρ l j (k+1) ks)
 | k,.b::ks=>by simp only[qC,bR,cd,List.map_cons,Sc.I,BE.I];exact congrArg _ (Ao ρ l j (k+1) ks)
 | k,.s::ks=>by simp only[qC,bR,cd,List.map_cons,Sc.I,TE.I];exact congrArg _ (Ao ρ l j (k+1) ks)
def RL.get:RL->U->Option (List Sc)
 | .var l ks,j=>some (qC l j 0 ks)
 | .one r,_=>some r
 | .app n a b,j=>match mkLt j n with
  | .lit true=>a.get j
  | .lit false=>b.get (mkSub j n)
  | c=>match a.get j,b.get (mkSub j n)with
   | some x,some y=>np c x y
   | _,_=>none
 | .drop n a,j=>a.get (mkAdd j n)
 | .eN i r a,j=>match mkEq j i with
  | .lit true=>some r
  | .lit false=>a.get j
  | c=>match a.get j with
   | some y=>np c r y
   | none=>none
 | .ite c a b,j=>match a.get j,b.get j with
  | some x,some y=>np c x y
  | _,_=>none
theorem RL.pv {ρ:aa}:∀{l:RL} {j:U} {r:List Sc},l.get j=some r->cd ρ r=l.row ρ (j.I ρ)
 | .var l ks,j,r,h=>by
  simp only[RL.get,Option.some.injEq]at h
  subst h
  exact Ao ρ l j 0 ks
 | .one s,j,r,h=>by
  simp only[RL.get,Option.some.injEq]at h
  subst h;rfl
 | .app n a b,j,r,h=>by
  simp only[RL.get]at h
  have H:=hh ρ j n
  simp only[RL.row]
  split at h
  ·rename_i hd
   rw[hd]at H
   have:=of_decide_eq_true (H.symm)
   rw[if_pos this]
   exact RL.pv h
  ·rename_i hd
   rw[hd]at H
   have:=of_decide_eq_false (H.symm)
   rw[if_neg this,<-nq]
   exact RL.pv h
  ·split at h
   ·rename_i x y A E
    rw[vW h,RL.pv A,RL.pv E,nq,H]
    by_cases W:U.I ρ j<U.I ρ n
    ·rw[if_pos (decide_eq_true W),if_pos W]
    ·rw[if_neg (by simpa using W),if_neg W]
   ·cases h
 | .drop n a,j,r,h=>by
  simp only[RL.get]at h
  simp only[RL.row]
  rw[<-fo]
  exact RL.pv h
 | .eN i q a,j,r,h=>by
  simp only[RL.get]at h
  have H:=eX ρ j i
  simp only[RL.row]
  split at h
  ·rename_i hd
   rw[hd]at H
   cases h
   rw[if_pos (by simpa [BE.I]using H.symm)]
  ·rename_i hd
   rw[hd]at H
   rw[if_neg (by simpa [BE.I]using H.symm)]
   exact RL.pv h
  ·split at h
   ·rename_i y E
    rw[vW h,RL.pv E,H]
    by_cases W:U.I ρ j=U.I ρ i
    ·rw[if_pos (by simpa using W),if_pos W]
    ·rw[if_neg (by simpa using W),if_neg W]
   ·cases h
 | .ite c a b,j,r,h=>by
  simp only[RL.get]at h
  simp only[RL.row]
  split at h
  ·rename_i x y A E
   rw[vW h,RL.pv A,RL.pv E]
  ·cases h
def RL.wd (z:Nat):RL->Bool
 | .var _ ks=>Nat.beq ks.length z
 | .one r=>Nat.beq r.length z
 | .app _ a b=>a.wd z&&b.wd z
 | .drop _ a=>a.wd z
 | .eN _ r a=>Nat.beq r.length z&&a.wd z
 | .ite _ a b=>a.wd z&&b.wd z
theorem Zj (ρ:aa) (r:List Sc):(cd ρ r).length=r.length:=by simp[cd]
theorem EO (ρ:aa) (l j:Nat):∀(ks:List Kd) (k:Nat),(bR ρ l k ks j).length=ks.length
 | [],_=>rfl
 | .i _::ks,k=>by simp only[bR,List.length_cons,EO ρ l j ks (k+1)]
 | .b::ks,k=>by simp only[bR,List.length_cons,EO ρ l j ks (k+1)]
 | .s::ks,k=>by simp only[bR,List.length_cons,EO ρ l j ks (k+1)]
theorem RL.uo {ρ:aa} {z:Nat}:∀{l:RL} {j:Int},l.wd z=true->(l.row ρ j).length=z
 | .var l ks,j,h=>by simp only[RL.row,EO];exact Nat.eq_of_beq_eq_true h
 | .one r,j,h=>by simp only[RL.row,Zj];exact Nat.eq_of_beq_eq_true h
 | .app n a b,j,h=>by
  simp only[RL.wd,Bool.and_eq_true]at h
  simp only[RL.row]
  split
  ·exact RL.uo h.1
  ·exact RL.uo h.2
 | .drop n a,j,h=>by simp only[RL.row];exact RL.uo (l:=a) h
 | .eN i r a,j,h=>by
  simp only[RL.wd,Bool.and_eq_true]at h
  simp only[RL.row]
  split
  ·rw[Zj];exact Nat.eq_of_beq_eq_true h.1
  ·exact RL.uo h.2
 | .ite c a b,j,h=>by
  simp only[RL.wd,Bool.and_eq_true]at h
  simp only[RL.row]
  split
  ·exact RL.uo h.1
  ·exact RL.uo h.2
def yu:Kd->Kd->Bool
 | .i k,.i k'=>mw k k'
 | .b,.b=>true
 | .s,.s=>true
 | _,_=>false
theorem Gq {x y:Kd} (h:yu x y=true):x=y:=by cases x<;>cases y<;>simp[yu]at h ⊢;exact ox h
def jN {am:Type} (f:am->am->Bool):List am->List am->Bool
 | [],[]=>true
 | a::aG,b::bs=>f a b&&jN f aG bs
 | _,_=>false
theorem mz {am:Type} {f:am->am->Bool} (hf:∀a b,f a b=true->a=b):∀{aG bs:List am},jN f aG bs=true->aG=bs
 | [],[],_=>rfl
 | a::aG,b::bs,h=>by
  simp only[jN,Bool.and_eq_true]at h
  rw[hf _ _ h.1,mz hf h.2]
 | [],_::_,h=>by simp[jN]at h
 | _::_,[],h=>by simp[jN]at h
def RL.beq:RL->RL->Bool
 | .var l ks,.var l' lA=>Nat.beq l l'&&jN yu ks lA
 | .one r,.one r'=>jN Sc.beq r r'
 | .app n a b,.app n' bz dt=>n.beq n'&&(a.beq bz&&b.beq dt)
 | .drop n a,.drop n' bz=>n.beq n'&&a.beq bz
 | .eN i r a,.eN i' r' bz=>i.beq i'&&(jN Sc.beq r r'&&a.beq bz)
 | .ite c a b,.ite dD bz dt=>c.beq dD&&(a.beq bz&&b.beq dt)
 | _,_=>false
theorem RL.beq_eq:∀{a b:RL},a.beq b=true->a=b
 | .var l ks,b,h=>by
  cases b<;>simp[RL.beq]at h ⊢
  exact⟨h.1,mz (fun _ _=>Gq) h.2⟩
 | .one r,b,h=>by
  cases b<;>simp[RL.beq]at h ⊢
  exact mz (fun _ _=>Sc.beq_eq) h
 | .app n x y,b,h=>by
  cases b<;>simp[RL.beq]at h ⊢
  exact⟨U.beq_eq _ _ h.1,RL.beq_eq h.2.1,RL.beq_eq h.2.2⟩
 | .drop n x,b,h=>by
  cases b<;>simp[RL.beq]at h ⊢
  exact⟨U.beq_eq _ _ h.1,RL.beq_eq h.2⟩
 | .eN i r x,b,h=>by
  cases b<;>simp[RL.beq]at h ⊢
  exact⟨U.beq_eq _ _ h.1,mz (fun _ _=>Sc.beq_eq) h.2.1,RL.beq_eq h.2.2⟩
 | .ite c x y,b,h=>by
  cases b<;>simp[RL.beq]at h ⊢
  exact⟨BE.beq_eq _ _ h.1,RL.beq_eq h.2.1,RL.beq_eq h.2.2⟩
def yK (c:BE) (a b:RL):RL:=if a.beq b=true then a else .ite c a b
theorem WG (ρ:aa) (c:BE) (a b:RL) (j:Int):(yK c a b).row ρ j=if c.I ρ=true then a.row ρ j else b.row ρ j:=by
 unfold yK
 split
 ·rename_i h;rw[RL.beq_eq h,ite_self]
 ·rfl
inductive Nk where
 | f (k:Kd)
 | r (z S:Nat) (ks:List Kd)
def qB (ρ:aa) (l k:Nat) (j:Nat):Kd->AV
 | .i K => .sc (.int K (ρ.ci l k j))
 | .b => .sc (.bool (ρ.cb l k j))
 | .s => .sc (.string (ρ.cs l k j))
def j0 (ρ:aa) (S:Nat) (ks:List Kd) (off n:Int):List (List AV):=(List.range n.toNat).map fun(e:Nat)=>bR ρ S 0 ks ((e:Int)+off).toNat
def dx (ρ:aa) (l:Nat):Nat->List Nk->Nat->List AV
 | _,[],_=>[]
 | k,.f kd::ks,j=>qB ρ l k j kd::dx ρ l (k+1) ks j
 | k,.r z S kk::ks,j => .ro z (j0 ρ S kk (ρ.ci l k j) (ρ.ci l (k+1000) j)) false::dx ρ l (k+1) ks j
theorem EM (ρ:aa) (l j:Nat):∀(ks:List Nk) (k:Nat),(dx ρ l k ks j).length=ks.length
 | [],_=>rfl
 | .f _::ks,k=>by simp only[dx,List.length_cons,EM ρ l j ks (k+1)]
 | .r _ _ _::ks,k=>by simp only[dx,List.length_cons,EM ρ l j ks (k+1)]
def G7:Nk->Nk->Bool
 | .f x,.f y=>yu x y
 | .r z S ks,.r z' S' lA=>Nat.beq z z'&&(Nat.beq S S'&&jN yu ks lA)
 | _,_=>false
theorem W0 {x y:Nk} (h:G7 x y=true):x=y:=by
 cases x<;>cases y<;>simp only[G7,Bool.false_eq_true,Bool.and_eq_true]at h
 ·rw[Gq h]
 ·rw[Nat.eq_of_beq_eq_true h.1,Nat.eq_of_beq_eq_true h.2.1,mz (fun _ _=>Gq) h.2.2]
inductive X where
 | top
 | k (v:Value)
 | sc (s:Sc)
 | agg (cs:List X)
 | tup (vs:List X)
 | ptr (n:Nm) (aG:List (BE×Nat)) (d:Nat)
 | sl (n:Nm) (z off len:Nat) (own:Bool)
 | ip (cs:List X) (aG:List (BE×Nat)) (d:Nat)
 | ro (z:Nat) (D:List (List X)) (full:Bool)
 | rl (z:Nat) (n:U) (l:RL) (full:Bool)
 | fn (f:Fn) (first cap:List X)
 | gd (c:BE) (x:X)
 | rows (z:Nat) (n:U) (l:RL)
 | slv (n:Nm) (z:Nat) (off len:U) (own:Bool)
 | dz (n:Nm) (z:Nat) (j:U) (o:Nat)
 | rn (z:Nat) (n:U) (l:Nat) (ks:List Nk) (full:Bool)
 | tk (z:Nat) (m:U) (t:Nat) (D:List (List X))
 | tq (z:Nat) (m:U) (t:Nat) (D:List (List X)) (full:Bool)
 | cQ (t k:Nat) (j:U)
instance:Inhabited X:=⟨.top⟩
noncomputable def choose (ρ:aa):List (BE×Nat)->Nat->Nat
 | [],d=>d
 | (c,o)::r,d=>if c.I ρ=true then o else choose ρ r d
noncomputable def aX (ρ:aa) (n:U) (l:RL):List (List AV):=(List.range (n.I ρ).toNat).map fun(j:Nat)=>l.row ρ j
noncomputable def fW (ρ:aa) (n:U) (l:Nat) (ks:List Nk):List (List AV):=(List.range (n.I ρ).toNat).map fun(j:Nat)=>dx ρ l 0 ks j
noncomputable def bN (ρ:aa) (z:Nat) (m:U) (t:Nat):List (List AV):=(List.range (m.I ρ).toNat).map fun(j:Nat)=>(List.range z).map fun k=>(ρ.ct t k j).1
mutual
noncomputable def X.I (ρ:aa):X->AV
 | .top => .top
 | .k v => .sc v
 | .sc s => .sc (s.I ρ)
 | .agg cs => .agg (X.af ρ cs)
 | .tup vs => .tup (X.af ρ vs)
 | .ptr n aG d => .ptr n (choose ρ aG d)
 | .sl n z off len own => .sl n z off len own
 | .ip cs aG d => .ip (X.af ρ cs) (choose ρ aG d)
 | .ro z D full => .ro z (X.a7 ρ D) full
 | .rl z n l full => .ro z (aX ρ n l) full
 | .fn f xs ys => .fn f (X.af ρ xs) (X.af ρ ys)
 | .gd c x=>if c.I ρ=true then x.I ρ else .sc undef
 | .rows _ _ _ => .top
 | .slv n z off len own => .sl n z ((off.I ρ).toNat*z) (len.I ρ).toNat own
 | .dz n z j o => .ptr n ((j.I ρ).toNat*z+o)
 | .rn z n l ks full => .ro z (fW ρ n l ks) full
 | .tk _ _ _ _ => .top
 | .tq z m t D full => .ro z (bN ρ z m t++X.a7 ρ D) full
 | .cQ t o j=>(ρ.ct t o (j.I ρ).toNat).1
noncomputable def X.af (ρ:aa):List X->List AV
 | []=>[]
 | x::xs=>x.I ρ::X.af ρ xs
noncomputable def X.a7 (ρ:aa):List (List X)->List (List AV)
 | []=>[]
 | e::D=>X.af ρ e::X.a7 ρ D
end
theorem X.mh (ρ:aa):∀l,X.af ρ l=l.map (X.I ρ)
 | []=>rfl
 | x::xs=>by simp only[X.af,List.map_cons,X.mh ρ xs]
theorem X.eH (ρ:aa):∀l,X.a7 ρ l=l.map (X.af ρ)
 | []=>rfl
 | x::xs=>by simp only[X.a7,List.map_cons,X.eH ρ xs]
theorem X.gg (ρ:aa) (l:List X):(X.af ρ l).length=l.length:=by rw[X.mh];simp
theorem X.gf (ρ:aa) (l m:List X):X.af ρ (l++m)=X.af ρ l++X.af ρ m:=by simp[X.mh]
theorem X.xy (ρ:aa) (l:List X) (n:Nat):X.af ρ (l.take n)=(X.af ρ l).take n:=by simp[X.mh]
theorem X.qL (ρ:aa) (l:List X) (n:Nat):X.af ρ (l.drop n)=(X.af ρ l).drop n:=by simp[X.mh]
theorem X.uX (ρ:aa) (l:List X) (i:Nat):(X.af ρ l)[i]? = (l[i]?).map (X.I ρ):=by simp[X.mh]
theorem X.xx (ρ:aa) (l:List (List X)) (i:Nat):(X.a7 ρ l)[i]? = (l[i]?).map (X.af ρ):=by simp[X.eH]
def CH (r:List Sc):List X:=r.map .sc
theorem OU (ρ:aa) (r:List Sc):X.af ρ (CH r)=cd ρ r:=by simp[X.mh,CH,cd,X.I]
def adX (l:Nat) (e:U) (k:Nat):Kd->X
 | .i K => .sc (.i K (.cl l k e))
 | .b => .sc (.b (.cl l k e))
 | .s => .sc (.s (.cl l k e))
def iu (l:Nat) (e:U):Nat->List Nk->List X
 | _,[]=>[]
 | k,.f kd::ks=>adX l e k kd::iu l e (k+1) ks
 | k,.r z S kk::ks => .rl z (.cl l (k+1000) e) (.drop (.cl l k e) (.var S kk)) false::iu l e (k+1) ks
theorem qD (ρ:aa) (l:Nat) (e:U):∀(ks:List Nk) (k:Nat),X.af ρ (iu l e k ks)=dx ρ l k ks (e.I ρ).toNat
 | [],_=>rfl
 | .f kd::ks,k=>by
  simp only[iu,dx,X.af,qD ρ l e ks (k+1)]
  congr 1
  cases kd<;>rfl
 | .r z S kk::ks,k=>by
  simp only[iu,dx,X.af,qD ρ l e ks (k+1)]
  rfl
def whole (w:Nat):Int:=match(Ieee.double.read w).toInt .zero with
 | some n=>n
 | none=>0
def mG:Value->X
 | .int k i => .sc (.i k (.lit i))
 | .bool b => .sc (.b (.lit b))
 | .string s => .sc (.s (.lit s))
 | .float .f64 w=>if Nat.beq (fv (whole w) false) w=true then .sc (.f (.lit (whole w)) (.lit false))else .k (.float .f64 w)
 | .complex .f64 w Y=>if(Nat.beq (fv (whole w) false) w&&Nat.beq (fv (whole Y) false) Y)=true then .sc (.c (.lit (whole w)) (.lit false) (.lit (whole Y)) (.lit false))else .k (.complex .f64 w Y)
 | v => .k v
theorem Xi (ρ:aa) (v:Value):(mG v).I ρ = .sc v:=by
 unfold mG
 split
 ·rfl
 ·rfl
 ·rfl
 ·split
  ·rename_i h
   simp only[X.I,Sc.I,U.I,BE.I,Nat.eq_of_beq_eq_true h]
  ·rfl
 ·split
  ·rename_i h
   rw[Bool.and_eq_true]at h
   simp only[X.I,Sc.I,U.I,BE.I,Nat.eq_of_beq_eq_true h.1,Nat.eq_of_beq_eq_true h.2]
  ·rfl
 ·rfl
def zE:Value->Value->Bool
 | .pointer none,.pointer none=>true
 | .slice none a b,.slice none bz dt=>Nat.beq a bz&&Nat.beq b dt
 | .nilFunc,.nilFunc=>true
 | .nilIface,.nilIface=>true
 | .tuple ⟨[]⟩,.tuple ⟨[]⟩=>true
 | _,_=>false
theorem Q3 {a b:Value} (h:zE a b=true):a=b:=by
 unfold zE at h
 split at h
 ·rfl
 ·simp at h;rw[h.1,h.2]
 ·rfl
 ·rfl
 ·rfl
 ·cases h
def cC (a b:Nm):Bool:=Nat.beq a.1 b.1&&Nat.beq a.2 b.2
theorem eB {a b:Nm} (h:cC a b=true):a=b:=by
 simp only[cC,Bool.and_eq_true]at h
 exact Prod.ext (Nat.eq_of_beq_eq_true h.1) (Nat.eq_of_beq_eq_true h.2)
def xh (a b:BE×Nat):Bool:=a.1.beq b.1&&Nat.beq a.2 b.2
theorem Ac (a b:BE×Nat) (h:xh a b=true):a=b:=by
 simp only[xh,Bool.and_eq_true]at h
 exact Prod.ext (BE.beq_eq _ _ h.1) (Nat.eq_of_beq_eq_true h.2)
def Fq:Fn->Fn->Bool
 | .func a,.func b=>Nat.beq a b
 | _,_=>false
theorem Uh {a b:Fn} (h:Fq a b=true):a=b:=by
 unfold Fq at h
 split at h
 ·simp at h;rw[h]
 ·cases h
mutual
def X.beq:X->X->Bool
 | .top,.top=>true
 | .k v,.k w=>zE v w
 | .sc s,.sc s'=>s.beq s'
 | .agg cs,.agg bi=>X.fc cs bi
 | .tup cs,.tup bi=>X.fc cs bi
 | .ptr n aG d,.ptr n' t8 gx=>cC n n'&&(Nat.beq d gx&&jN xh aG t8)
 | .sl n z o l w,.sl n' z' o' l' w'=>cC n n'&&(Nat.beq z z'&&(Nat.beq o o'&&(Nat.beq l l'&&w==w')))
 | .ip cs aG d,.ip bi t8 gx=>Nat.beq d gx&&(jN xh aG t8&&X.fc cs bi)
 | .ro z D f,.ro z' bB f'=>Nat.beq z z'&&(f==f'&&X.qz D bB)
 | .rl z n l f,.rl z' n' l' f'=>Nat.beq z z'&&(f==f'&&(n.beq n'&&l.beq l'))
 | .fn f xs ys,.fn f' v6 wl=>Fq f f'&&(X.fc xs v6&&X.fc ys wl)
 | .gd c x,.gd dD Rg=>c.beq dD&&x.beq Rg
 | .rows z n l,.rows z' n' l'=>Nat.beq z z'&&(n.beq n'&&l.beq l')
 | .slv n z o l w,.slv n' z' o' l' w'=>cC n n'&&(Nat.beq z z'&&(o.beq o'&&(l.beq l'&&w==w')))
 | .dz n z j o,.dz n' z' j' o'=>cC n n'&&(Nat.beq z z'&&(j.beq j'&&Nat.beq o o'))
 | .rn z n l ks f,.rn z' n' l' lA f'=>Nat.beq z z'&&(f==f'&&(n.beq n'&&(Nat.beq l l'&&jN G7 ks lA)))
 | .tk z m t D,.tk z' m' t' bB=>Nat.beq z z'&&(m.beq m'&&(Nat.beq t t'&&X.qz D bB))
 | .tq z m t D f,.tq z' m' t' bB f'=>Nat.beq z z'&&(f==f'&&(m.beq m'&&(Nat.beq t t'&&X.qz D bB)))
 | .cQ t o j,.cQ t' o' j'=>Nat.beq t t'&&(Nat.beq o o'&&j.beq j')
 | _,_=>false
def X.fc:List X->List X->Bool
 | [],[]=>true
 | a::aG,b::bs=>a.beq b&&X.fc aG bs
 | _,_=>false
def X.qz:List (List X)->List (List X)->Bool
 | [],[]=>true
 | a::aG,b::bs=>X.fc a b&&X.qz aG bs
 | _,_=>false
end
mutual
theorem X.beq_eq:∀(a b:X),a.beq b=true->a=b
 | .top,b,h=>by cases b<;>simp[X.beq]at h ⊢
 | .k v,b,h=>by cases b<;>simp[X.beq]at h ⊢;exact Q3 h
 | .sc v,b,h=>by cases b<;>simp[X.beq]at h ⊢;exact Sc.beq_eq h
 | .agg cs,b,h=>by cases b<;>simp[X.beq]at h ⊢;exact X.gv _ _ h
 | .tup cs,b,h=>by cases b<;>simp[X.beq]at h ⊢;exact X.gv _ _ h
 | .ptr n aG d,b,h=>by
  cases b<;>simp[X.beq]at h ⊢
  exact⟨eB h.1,mz Ac h.2.2,h.2.1⟩
 | .sl n z o l w,b,h=>by
  cases b<;>simp[X.beq]at h ⊢
  exact⟨eB h.1,h.2.1,h.2.2.1,h.2.2.2.1,h.2.2.2.2⟩
 | .ip cs aG d,b,h=>by
  cases b<;>simp[X.beq]at h ⊢
  exact⟨X.gv _ _ h.2.2,mz Ac h.2.1,h.1⟩
 | .ro z D f,b,h=>by
  cases b<;>simp[X.beq]at h ⊢
  exact⟨h.1,X.Aj _ _ h.2.2,h.2.1⟩
 | .rl z n l f,b,h=>by
  cases b<;>simp[X.beq]at h ⊢
  exact⟨h.1,U.beq_eq _ _ h.2.2.1,RL.beq_eq h.2.2.2,h.2.1⟩
 | .fn f xs ys,b,h=>by
  cases b<;>simp[X.beq]at h ⊢
  exact⟨Uh h.1,X.gv _ _ h.2.1,X.gv _ _ h.2.2⟩
 | .gd c x,b,h=>by
  cases b<;>simp[X.beq]at h ⊢
  exact⟨BE.beq_eq _ _ h.1,X.beq_eq _ _ h.2⟩
 | .rows z n l,b,h=>by
  cases b<;>simp[X.beq]at h ⊢
  exact⟨h.1,U.beq_eq _ _ h.2.1,RL.beq_eq h.2.2⟩
 | .slv n z o l w,b,h=>by
  cases b<;>simp[X.beq]at h ⊢
  exact⟨eB h.1,h.2.1,U.beq_eq _ _ h.2.2.1,U.beq_eq _ _ h.2.2.2.1,h.2.2.2.2⟩
 | .dz n z j o,b,h=>by
  cases b<;>simp[X.beq]at h ⊢
  exact⟨eB h.1,h.2.1,U.beq_eq _ _ h.2.2.1,h.2.2.2⟩
 | .rn z n l ks f,b,h=>by
  cases b<;>simp[X.beq]at h ⊢
  exact⟨h.1,U.beq_eq _ _ h.2.2.1,h.2.2.2.1,mz (fun _ _=>W0) h.2.2.2.2,h.2.1⟩
 | .tk z m t D,b,h=>by
  cases b<;>simp[X.beq]at h ⊢
  exact⟨h.1,U.beq_eq _ _ h.2.1,h.2.2.1,X.Aj _ _ h.2.2.2⟩
 | .tq z m t D f,b,h=>by
  cases b<;>simp[X.beq]at h ⊢
  exact⟨h.1,U.beq_eq _ _ h.2.2.1,h.2.2.2.1,X.Aj _ _ h.2.2.2.2,h.2.1⟩
 | .cQ t o j,b,h=>by
  cases b<;>simp[X.beq]at h ⊢
  exact⟨h.1,h.2.1,U.beq_eq _ _ h.2.2⟩
theorem X.gv:∀(a b:List X),X.fc a b=true->a=b
 | [],[],_=>rfl
 | a::aG,b::bs,h=>by
  simp only[X.fc,Bool.and_eq_true]at h
  rw[X.beq_eq a b h.1,X.gv aG bs h.2]
 | [],_::_,h=>by simp[X.fc]at h
 | _::_,[],h=>by simp[X.fc]at h
theorem X.Aj:∀(a b:List (List X)),X.qz a b=true->a=b
 | [],[],_=>rfl
 | a::aG,b::bs,h=>by
  simp only[X.qz,Bool.and_eq_true]at h
  rw[X.gv a b h.1,X.Aj aG bs h.2]
 | [],_::_,h=>by simp[X.qz]at h
 | _::_,[],h=>by simp[X.qz]at h
end
mutual
def X.et (c:BE):X->X->Option X
 | .sc a,.sc b=>match GQ c a b with
  | some s=>some (.sc s)
  | none=>none
 | .agg cs,.agg ds=>match X.pQ c cs ds with
  | some D=>some (.agg D)
  | none=>none
 | .tup cs,.tup ds=>match X.pQ c cs ds with
  | some D=>some (.tup D)
  | none=>none
 | .slv n z o l w,.slv n' z' o' l' w'=>if(cC n n'&&(Nat.beq z z'&&w==w'))=true then some (.slv n z (lF c o o') (lF c l l') w)else none
 | .rl z n l f,.rl z' n' l' f'=>if(Nat.beq z z'&&f==f')=true then some (.rl z (lF c n n') (yK c l l') f)else none
 | x,y=>if x.beq y=true then some x else none
def X.pQ (c:BE):List X->List X->Option (List X)
 | [],[]=>some []
 | a::aG,b::bs=>match X.et c a b with
  | some s=>match X.pQ c aG bs with
   | some r=>some (s::r)
   | none=>none
  | none=>none
 | _,_=>none
end
theorem h_ {ρ:aa} {c:BE} {x y z:X} (h:(if x.beq y=true then some x else none)=some z):z.I ρ=if c.I ρ=true then x.I ρ else y.I ρ:=by
 split at h
 ·rename_i hb;cases h;rw[<-X.beq_eq _ _ hb];simp
 ·cases h
mutual
theorem X.Cr {ρ:aa} {c:BE}:∀(x y z:X),X.et c x y=some z->z.I ρ=if c.I ρ=true then x.I ρ else y.I ρ
 | .sc a,y,z,h=>by
  cases y
  case sc b =>
   simp only[X.et]at h
   split at h
   ·rename_i s hs
    cases h
    simp only[X.I,Wu (ρ:=ρ) hs]
    split<;>rfl
   ·cases h
  all_goals exact h_ (by simpa only[X.et]using h)
 | .agg cs,y,z,h=>by
  cases y
  case agg ds =>
   simp only[X.et]at h
   split at h
   ·rename_i s hs
    cases h
    simp only[X.I,X.Cp cs ds s hs]
    split<;>rfl
   ·cases h
  all_goals exact h_ (by simpa only[X.et]using h)
 | .tup cs,y,z,h=>by
  cases y
  case tup ds =>
   simp only[X.et]at h
   split at h
   ·rename_i s hs
    cases h
    simp only[X.I,X.Cp cs ds s hs]
    split<;>rfl
   ·cases h
  all_goals exact h_ (by simpa only[X.et]using h)
 | .top,y,z,h=>h_ (by simpa only[X.et]using h)
 | .k _,y,z,h=>h_ (by simpa only[X.et]using h)
 | .ptr _ _ _,y,z,h=>h_ (by simpa only[X.et]using h)
 | .sl _ _ _ _ _,y,z,h=>h_ (by simpa only[X.et]using h)
 | .ip _ _ _,y,z,h=>h_ (by simpa only[X.et]using h)
 | .ro _ _ _,y,z,h=>h_ (by simpa only[X.et]using h)
 | .rl z n l f,y,q,h=>by
  cases y
  case rl z' n' l' f' =>
   simp only[X.et]at h
   split at h
   ·rename_i H
    simp only[Bool.and_eq_true,beq_iff_eq]at H
    have hz:=Nat.eq_of_beq_eq_true H.1
    have hf:=H.2
    subst hz hf
    cases h
    simp only[X.I]
    have:aX ρ (lF c n n') (yK c l l')=if c.I ρ=true then aX ρ n l else aX ρ n' l':=by
     unfold aX
     rw[tw]
     simp only[WG]
     split<;>rfl
    rw[this]
    split<;>rfl
   ·cases h
  all_goals exact h_ (by simpa only[X.et]using h)
 | .slv n z o l w,y,q,h=>by
  cases y
  case slv n' z' o' l' w' =>
   simp only[X.et]at h
   split at h
   ·rename_i H
    simp only[Bool.and_eq_true,beq_iff_eq]at H
    have hn:=eB H.1
    have hz:=Nat.eq_of_beq_eq_true H.2.1
    have hw:=H.2.2
    subst hn hz hw
    cases h
    simp only[X.I,tw]
    split<;>rfl
   ·cases h
  all_goals exact h_ (by simpa only[X.et]using h)
 | .rows _ _ _,y,z,h=>h_ (by simpa only[X.et]using h)
 | .dz _ _ _ _,y,z,h=>h_ (by simpa only[X.et]using h)
 | .rn _ _ _ _ _,y,z,h=>h_ (by simpa only[X.et]using h)
 | .tk _ _ _ _,y,z,h=>h_ (by simpa only[X.et]using h)
 | .tq _ _ _ _ _,y,z,h=>h_ (by simpa only[X.et]using h)
 | .cQ _ _ _,y,z,h=>h_ (by simpa only[X.et]using h)
 | .fn _ _ _,y,z,h=>h_ (by simpa only[X.et]using h)
 | .gd _ _,y,z,h=>h_ (by simpa only[X.et]using h)
theorem X.Cp {ρ:aa} {c:BE}:∀(x y z:List X),X.pQ c x y=some z->X.af ρ z=if c.I ρ=true then X.af ρ x else X.af ρ y
 | [],[],z,h=>by simp only[X.pQ,Option.some.injEq]at h;subst h;simp
 | a::aG,b::bs,z,h=>by
  simp only[X.pQ]at h
  split at h
  ·rename_i s hs
   split at h
   ·rename_i r hr
    cases h
    simp only[X.af,X.Cr a b s hs,X.Cp aG bs r hr]
    split<;>rfl
   ·cases h
  ·cases h
 | [],_::_,_,h=>by simp[X.pQ]at h
 | _::_,[],_,h=>by simp[X.pQ]at h
end
end Go.Proofs.Xw
namespace Go.Proofs.Xw
open Go Go.Proofs.Aw
structure TI where
 cells:Nat
 agg:Option Bool
 zero:Option (List Value)
 arr:Option (Nat×Nat)
 sv:Option Bool
 sl:Option (Nat×Nat)
 rc:Option (List (Nat×Nat))
 X9:Option (List (Option Bool))
 str:Bool
 xm:Bool
 Wo:Option (List Nat)
 k9:Nat
 yj:Option IntKind
 QZ:Bool
 fl:Bool
 pt:Bool
def zeroV (P:Program) (t:TypeId):Option (List Value):=(P.info? t).bind fun i=>i.zero.map fun v=>v.cells.toList
theorem Jr (P:Program) (t:TypeId):fE P t=(zeroV P t).map fun l=>l.map AV.sc:=by
 unfold fE zeroV
 cases P.info? t with
 | none=>rfl
 | some i=>cases h:i.zero<;>simp[h]
def Na (P:Program) (t:TypeId):Option IntKind:=match P.underlying t with | some (.int k)=>some k | _=>none
def LK (P:Program) (t:TypeId):Bool:=match P.underlying t with | some (.float .f64)=>true | _=>false
def cx (P:Program) (t:TypeId):TI :=
 { cells:=P.cellsOf t,agg:=e5 P t,zero:=zeroV P t,arr:=ey P t,sv:=sv P t,sl:=bE P t,rc:=ji P t,X9:=CZ P t,str:=nE P t,xm:=xo P t,Wo:=vR P t,k9:=c' P t,yj:=Na P t,QZ:=(P.underlying t).isSome,fl:=LK P t,pt:=CU P t }
abbrev av:=List (Nm×List X)
abbrev aN:=List (Nm×Option (List X))
abbrev bf:=List (Nat×X)
def b0:List X->Bool
 | [.rows _ _ _]=>true
 | [.tk _ _ _ _]=>true
 | _=>false
noncomputable def aB (ρ:aa):List X->List AV
 | [.rows _ n l]=>(aX ρ n l).flatten
 | [.tk z m t D]=>(bN ρ z m t++X.a7 ρ D).flatten
 | cs=>X.af ρ cs
theorem cR {ρ:aa} {cs:List X} (h:b0 cs=false):aB ρ cs=X.af ρ cs:=by
 unfold aB
 split
 ·simp[b0]at h
 ·simp[b0]at h
 ·rfl
def bl:av->Nm->Option (List X)
 | [],_=>none
 | (m,v)::l,n=>if cC m n=true then some v else bl l n
def ON (cs:List X):Option (List X):=if b0 cs=true then none else some cs
def pA (h:av) (n:Nm):Option (List X):=match bl h n with
 | some cs=>ON cs
 | none=>none
theorem ajh {cs ds:List X} (h:ON cs=some ds):cs=ds/\b0 ds=false:=by
 unfold ON at h
 split at h
 ·cases h
 ·rename_i hr;cases h;exact⟨rfl,by simpa using hr⟩
theorem agm {h:av} {n:Nm} {cs:List X} (Z:pA h n=some cs):bl h n=some cs/\b0 cs=false:=by
 unfold pA at Z
 split at Z
 ·rename_i ds hd
  obtain⟨A,E⟩:=ajh Z
  subst A
  exact⟨hd,E⟩
 ·cases Z
def x1:av->Nm->av
 | [],_=>[]
 | (m,v)::l,n=>if cC m n=true then x1 l n else(m,v)::x1 l n
def ya:av->Nm->List X->av
 | [],n,v=>[(n,v)]
 | (m,Y)::l,n,v=>if cC m n=true then(m,v)::l else(m,Y)::ya l n v
def iz:aN->av->av
 | [],h=>h
 | (n,some v)::d,h=>iz d (ya h n v)
 | (n,none)::d,h=>iz d (x1 h n)
noncomputable def aK (ρ:aa) (h:av):Hp:=h.map fun p=>(p.1,aB ρ p.2)
noncomputable def bn (ρ:aa) (d:aN):Dl:=d.map fun p=>(p.1,p.2.map (aB ρ))
noncomputable def ep (ρ:aa) (t:bf):Tp:=t.map fun p=>(p.1,p.2.I ρ)
theorem OH {a b:Nm}:cC a b=true↔a=b:=⟨eB,fun h=>by subst h;simp[cC]⟩
theorem cL (ρ:aa) (n:Nm):∀h:av,ae (aK ρ h) n=(bl h n).map (aB ρ)
 | []=>rfl
 | (m,v)::l=>by
  have ih:=cL ρ n l
  simp only[aK,List.map_cons,ae,bl,OH]at ih ⊢
  by_cases e:m=n
  ·rw[if_pos e,if_pos e];rfl
  ·rw[if_neg e,if_neg e];exact ih
theorem x4 {ρ:aa} {n:Nm} {h:av} {cs:List X} (Z:pA h n=some cs):ae (aK ρ h) n=some (X.af ρ cs):=by
 obtain⟨A,E⟩:=agm Z
 rw[cL,A,Option.map_some,cR E]
theorem Tf (ρ:aa) (n:Nm):∀h:av,aK ρ (x1 h n)=pz (aK ρ h) n
 | []=>rfl
 | (m,v)::l=>by
  have ih:=Tf ρ n l
  simp only[aK,List.map_cons,pz,x1,OH]at ih ⊢
  by_cases e:m=n
  ·rw[if_pos e,if_pos e];exact ih
  ·rw[if_neg e,if_neg e,List.map_cons,ih]
theorem Tg (ρ:aa) (n:Nm) (v:List X):∀h:av,aK ρ (ya h n v)=g9 (aK ρ h) n (aB ρ v)
 | []=>rfl
 | (m,Y)::l=>by
  have ih:=Tg ρ n v l
  simp only[aK,List.map_cons,g9,ya,OH]at ih ⊢
  by_cases e:m=n
  ·rw[if_pos e,if_pos e];rfl
  ·rw[if_neg e,if_neg e,List.map_cons,ih]
theorem pj (ρ:aa):∀(d:aN) (h:av),aK ρ (iz d h)=aE (bn ρ d) (aK ρ h)
 | [],_=>rfl
 | (n,some v)::d,h=>by
  have ih:=pj ρ d (ya h n v)
  simp only[iz,bn,List.map_cons,Option.map_some,aE]at ih ⊢
  rw[ih,Tg]
 | (n,none)::d,h=>by
  have ih:=pj ρ d (x1 h n)
  simp only[iz,bn,List.map_cons,Option.map_none,aE]at ih ⊢
  rw[ih,Tf]
def b3:bf->Nat->X
 | [],_ => .top
 | (j,v)::l,i=>if Nat.beq j i=true then v else b3 l i
theorem jm (ρ:aa) (i:Nat):∀t:bf,bU (ep ρ t) i=(b3 t i).I ρ
 | []=>rfl
 | (j,v)::l=>by
  have ih:=jm ρ i l
  simp only[ep,List.map_cons,bU,b3]at ih ⊢
  by_cases e:j=i
  ·rw[if_pos e,if_pos (by simpa using e)]
  ·rw[if_neg e,if_neg (by simpa using e)];exact ih
def nI (d:Option Tmp) (v:X) (t:bf):bf :=
 match d with
 | some d=>(d,v)::t
 | none=>t
theorem E0 (ρ:aa) (d:Option Tmp) (v:X) (t:bf):ep ρ (nI d v t)=gP d (v.I ρ) (ep ρ t):=by cases d<;>rfl
def X.cells:X->List X
 | .agg cs=>cs
 | v=>[v]
def X.one:X->Bool
 | .top | .agg _ | .tup _ | .gd _ _ | .rows _ _ _ | .tk _ _ _ _=>false
 | .k v=>v.oneCell'
 | _=>true
theorem X.one_den (ρ:aa) (x:X) (h:x.one=true):(x.I ρ).one=true:=by
 cases x with
 | sc s=>cases s<;>rfl
 | k v=>exact h
 | gd c x=>cases h
 | top=>cases h
 | agg cs=>cases h
 | tup cs=>cases h
 | rows z n l=>cases h
 | tk _ _ _ _=>cases h
 | cQ t o j=>exact(ρ.ct t o _).2.2
 | _=>rfl
theorem aha {l:List X} (h:l.all X.one=true):b0 l=false:=by
 unfold b0
 split
 ·simp[X.one]at h
 ·simp[X.one]at h
 ·rfl
theorem ale {v:AV} (h:v.one=true):v.cells=[v]:=by
 cases v<;>first | rfl | cases h
theorem X.nV (ρ:aa):∀l:List X,l.all X.one=true->(X.af ρ l).all AV.one=true
 | [],_=>rfl
 | x::xs,h=>by
  simp only[List.all_cons,Bool.and_eq_true]at h
  simp only[X.af,List.all_cons,X.one_den ρ x h.1,X.nV ρ xs h.2,Bool.and_self]
theorem X.Ar (ρ:aa) (x:X) (h:x.cells.all X.one=true):(x.I ρ).cells=X.af ρ x.cells:=by
 cases x with
 | gd c x=>simp[X.cells,X.one]at h
 | cQ t o j=>exact ale (ρ.ct t o _).2.2
 | _=>rfl
def wN (k:Nat):List (BE×Nat)->List (BE×Nat)
 | []=>[]
 | (c,o)::r=>(c,o+k)::wN k r
theorem Ax (ρ:aa) (k d:Nat):∀aG,choose ρ (wN k aG) (d+k)=choose ρ aG d+k
 | []=>rfl
 | (c,o)::r=>by
  simp only[wN,choose,Ax ρ k d r]
  split<;>rfl
def xf (g:BE->BE) (e:U) (z o:Nat):Nat->List (BE×Nat)->List (BE×Nat)
 | 0,r=>r
 | m+1,r=>xf g e z o m ((g (mkEq e (.lit m)),o+m*z)::r)
theorem Kl {ρ:aa} {g:BE->BE} {v:Bool} (Z:∀b,(g b).I ρ=(v&&b.I ρ)) {e:U} {j:Nat} (F:e.I ρ=j) (z o d:Nat):∀(m:Nat) (r:List (BE×Nat)),
  choose ρ (xf g e z o m r) d=if v=true/\j<m then o+j*z else choose ρ r d
 | 0,r=>by simp[xf]
 | m+1,r=>by
  rw[xf,Kl Z F z o d m]
  simp only[choose,Z,eX,F,U.I]
  by_cases R:v=true
  ·subst R
   by_cases A:j<m
   ·rw[if_pos ⟨rfl,A⟩,if_pos ⟨rfl,by omega⟩]
   ·rw[if_neg (by simp[A])]
    by_cases E:j=m
    ·subst E;simp
    ·have h3:¬(j<m+1):=by omega
     have h4:((j:Int)==(m:Int))=false:=by
      rw[beq_eq_false_iff_ne];intro h;apply E;exact_mod_cast h
     simp[h3,h4]
  ·have hf:v=false:=by simpa using R
   subst hf;simp
def vG (e:U) (z len:Nat):List (BE×Nat)->Nat->List (BE×Nat)
 | [],d=>xf (fun b=>b) e z d (len-1) []
 | (c,o)::r,d=>xf (mkAnd c) e z o (len-1) ((c,o+(len-1)*z)::vG e z len r d)
theorem EU {ρ:aa} {e:U} {z len:Nat} {j:Nat} (F:e.I ρ=j) (M:j<len) (d:Nat):∀aG,choose ρ (vG e z len aG d) (d+(len-1)*z)=choose ρ aG d+j*z
 | []=>by
  rw[vG,Kl (v:=true) (fun b=>by simp) F]
  simp only[choose,true_and]
  split
  ·rfl
  ·rw[show len-1=j from by omega]
 | (c,o)::r=>by
  rw[vG,Kl (v:=c.I ρ) (fun b=>by rw[fQ]) F]
  simp only[choose,EU F M d r]
  by_cases H:c.I ρ=true
  ·simp only[H,true_and,if_true]
   split
   ·rfl
   ·rw[show len-1=j from by omega]
  ·simp[H]
def tM:Option Bool->Nat->List X->Nat->Option X
 | some true,z,cs,off=>if Nat.blt 0 z&&Nat.ble (off+z) cs.length then some (.agg ((cs.drop off).take z))else none
 | some false,_,cs,off=>cs[off]?
 | none,_,_,_=>none
theorem y_ {ρ:aa} {b:Option Bool} {z:Nat} {cs:List X} {off:Nat} {v:X} (h:tM b z cs off=some v):jY b z (X.af ρ cs) off=some (v.I ρ):=by
 unfold tM at h
 split at h
 ·split at h
  ·rename_i H
   simp only[Bool.and_eq_true,Nat.blt_eq,Nat.ble_eq]at H
   cases h
   simp only[jY,X.gg,X.I,X.xy,X.qL]
   rw[if_pos ⟨by simpa [Nat.blt_eq]using H.1,H.2⟩]
  ·cases h
 ·simp only[jY,X.uX,h,Option.map_some]
 ·cases h
def y8 (b:Option Bool) (z:Nat) (cs:List X):List (BE×Nat)->Nat->Option X
 | [],d=>tM b z cs d
 | (c,o)::r,d=>match tM b z cs o,y8 b z cs r d with
  | some x,some y=>X.et c x y
  | _,_=>none
theorem HT {ρ:aa} {b:Option Bool} {z:Nat} {cs:List X} {d:Nat}:∀{aG:List (BE×Nat)} {v:X},y8 b z cs aG d=some v->jY b z (X.af ρ cs) (choose ρ aG d)=some (v.I ρ)
 | [],v,h=>y_ h
 | (c,o)::r,v,h=>by
  simp only[y8]at h
  split at h
  ·rename_i x y A E
   rw[X.Cr _ _ _ h]
   simp only[choose]
   split
   ·exact y_ A
   ·exact HT E
  ·cases h
def GD (i:TI) (h:av):X->Option X
 | .ptr n aG d=>match pA h n with
  | some cs=>y8 i.agg i.cells cs aG d
  | none=>none
 | .ip cs aG d=>y8 i.agg i.cells cs aG d
 | _=>none
theorem Wc {P:Program} {ρ:aa} {ty:TypeId} {h:av} {x v:X} (R:GD (cx P ty) h x=some v):oC P (aK ρ h) ty (x.I ρ)=some (v.I ρ):=by
 unfold GD at R
 split at R
 ·split at R
  ·rename_i cs Z
   simp only[X.I,oC,x4 Z,HV]
   exact HT R
  ·cases R
 ·simp only[X.I,oC]
  exact HT R
 ·cases R
def t_ (cs:List X) (off:Nat) (vs:List X):List X:=cs.take off++(vs++cs.drop (off+vs.length))
theorem IE (ρ:aa) (cs:List X) (off:Nat) (vs:List X):X.af ρ (t_ cs off vs)=fY (X.af ρ cs) off (X.af ρ vs):=by
 simp only[t_,fY,X.gf,X.xy,X.qL,X.gg]
def I' (z:Nat) (cs ys:List X) (o:Nat):Option (List X):=if Nat.blt 0 z&&(Nat.beq ys.length z&&(Nat.ble (o+z) cs.length&&ys.all X.one))then some (t_ cs o ys)else none
theorem aaP {ρ:aa} {z:Nat} {cs ys bi:List X} {o:Nat} {m:Nm} (h:I' z cs ys o=some bi):wY z m o (X.af ρ ys) (some (X.af ρ cs))=some [(m,some (X.af ρ bi))]:=by
 unfold I' at h
 split at h
 ·rename_i H
  simp only[Bool.and_eq_true,Nat.ble_eq]at H
  cases h
  simp only[wY,X.gg,IE]
  rw[if_pos ⟨by simpa [Nat.blt_eq]using H.1,Nat.eq_of_beq_eq_true H.2.1,H.2.2.1,X.nV ρ _ H.2.2.2⟩]
 ·cases h
def Ja (z:Nat) (cs ys:List X):List (BE×Nat)->Nat->Option (List X)
 | [],d=>I' z cs ys d
 | (c,o)::r,d=>match I' z cs ys o,Ja z cs ys r d with
  | some x,some y=>X.pQ c x y
  | _,_=>none
theorem aaQ {ρ:aa} {z:Nat} {cs ys:List X} {d:Nat} {m:Nm}:∀{aG:List (BE×Nat)} {bi:List X},Ja z cs ys aG d=some bi->wY z m (choose ρ aG d) (X.af ρ ys) (some (X.af ρ cs))=some [(m,some (X.af ρ bi))]
 | [],_,h=>aaP h
 | (c,o)::r,v,h=>by
  simp only[Ja]at h
  split at h
  ·rename_i x y A E
   rw[X.Cp _ _ _ h]
   simp only[choose]
   split
   ·exact aaP A
   ·exact aaQ E
  ·cases h
def Qs (i:TI) (h:av):X->List X->Option aN
 | .ptr n aG d,ys=>if ys.all X.one=true then match pA h n with
  | some cs=>match Ja i.cells cs ys aG d with
   | some bi=>if b0 bi=true then none else some [(n,some bi)]
   | none=>none
  | none=>none
  else none
 | _,_=>none
theorem arI {P:Program} {ρ:aa} {ty:TypeId} {h:av} {x:X} {ys:List X} {d:aN} (R:Qs (cx P ty) h x ys=some d):ys.all X.one=true/\qf P (aK ρ h) ty (x.I ρ) (X.af ρ ys)=some (bn ρ d):=by
 unfold Qs at R
 split at R
 ·split at R
  ·rename_i gG
   split at R
   ·rename_i cs Z
    split at R
    ·rename_i bi hw
     split at R
     ·cases R
     ·rename_i hr
      cases R
      refine⟨gG,?_⟩
      simp only[X.I,qf,x4 Z,bn,List.map_cons,List.map_nil,Option.map_some,cR (ρ:=ρ) (show b0 bi=false by simpa using hr)]
      exact aaQ hw
    ·cases R
   ·cases R
  ·cases R
 ·cases R
def g_ {am:Type} (B:J) (e n:U) (k:J->T am):T am:=want B (mkNot (mkLt e (.lit 0))) fun B=>want B (mkLt e n) k
theorem lR {am:Type} {ρ:aa} {B:J} {e n:U} {k:J->T am} {a:am} (u:J.ok ρ B) (h:(g_ B e n k).aq ρ=some a):∃aQ j,J.ok ρ aQ/\e.I ρ=(j:Nat)/\(j:Int)<n.I ρ/\(k aQ).aq ρ=some a:=by
 unfold g_ at h
 obtain⟨f0,bt,A,h⟩:=c4 u h
 obtain⟨lY,dV,E,h⟩:=c4 bt h
 rw[eA,hh]at A
 rw[hh]at E
 have A:¬(U.I ρ e<U.I ρ (.lit 0)):=fun W=>by rw[decide_eq_true W]at A;cases A
 have E:=of_decide_eq_true E
 simp only[U.I]at A
 exact⟨lY,(e.I ρ).toNat,dV,by omega,by omega,h⟩
def HM (n:Nm) (aG:List (BE×Nat)) (d:Nat) (e:U) (z len:Nat):X :=
 match e with
 | .lit j => .ptr n (wN (j.toNat*z) aG) (d+j.toNat*z)
 | e => .ptr n (vG e z len aG d) (d+(len-1)*z)
theorem X5 {ρ:aa} {n:Nm} {aG:List (BE×Nat)} {d:Nat} {e:U} {z len j:Nat} (F:e.I ρ=j) (M:j<len):(HM n aG d e z len).I ρ = .ptr n (choose ρ aG d+j*z):=by
 unfold HM
 split
 ·rename_i i
  simp only[U.I]at F
  simp only[X.I,Ax,F,Int.toNat_natCast]
 ·simp only[X.I,EU F M]
def Nf (cs:List X) (aG:List (BE×Nat)) (d:Nat) (e:U) (z len:Nat):X :=
 match e with
 | .lit j => .ip cs (wN (j.toNat*z) aG) (d+j.toNat*z)
 | e => .ip cs (vG e z len aG d) (d+(len-1)*z)
theorem ag7 {ρ:aa} {cs:List X} {aG:List (BE×Nat)} {d:Nat} {e:U} {z len j:Nat} (F:e.I ρ=j) (M:j<len):(Nf cs aG d e z len).I ρ = .ip (X.af ρ cs) (choose ρ aG d+j*z):=by
 unfold Nf
 split
 ·rename_i i
  simp only[U.I]at F
  simp only[X.I,Ax,F,Int.toNat_natCast]
 ·simp only[X.I,EU F M]
def Cv (e:U):Nat->List (List X)->Option (List X)
 | _,[]=>none
 | _,[r]=>some r
 | j,r::rs=>match Cv e (j+1) rs with
  | some y=>X.pQ (mkEq e (.lit j)) r y
  | none=>none
theorem WR {ρ:aa} {e:U}:∀(D:List (List X)) (j t:Nat) (r:List X),e.I ρ=((j+t:Nat):Int)->t<D.length->Cv e j D=some r->(X.a7 ρ D)[t]? = some (X.af ρ r)
 | [],j,t,r,_,ht,_=>by simp at ht
 | [a],j,t,r,_,ht,h=>by
  simp only[Cv,Option.some.injEq]at h
  subst h
  obtain rfl:t=0:=by simpa using ht
  rfl
 | a::b::rs,j,t,r,F,ht,h=>by
  simp only[Cv]at h
  split at h
  ·rename_i y hy
   rw[X.Cp _ _ _ h]
   cases t with
   | zero =>
    have H:(mkEq e (.lit j)).I ρ=true:=by rw[eX,F];simp[U.I]
    rw[if_pos H];rfl
   | succ t =>
    have H:¬(mkEq e (.lit j)).I ρ=true:=by rw[eX,F];simp only[U.I,beq_iff_eq];omega
    rw[if_neg H]
    simp only[X.a7,List.getElem?_cons_succ]
    have:=WR (b::rs) (j+1) t y (by rw[F];congr 1;omega) (by simpa using ht) hy
    simpa only[X.a7]using this
  ·cases h
def rowAt (e:U) (D:List (List X)):Option (List X) :=
 match e with
 | .lit j=>D[j.toNat]?
 | e=>Cv e 0 D
theorem aqv {ρ:aa} {e:U} {D:List (List X)} {j:Nat} {r:List X} (F:e.I ρ=j) (M:j<D.length) (h:rowAt e D=some r):(X.a7 ρ D)[j]? = some (X.af ρ r):=by
 unfold rowAt at h
 split at h
 ·rename_i i
  simp only[U.I]at F
  rw[F,Int.toNat_natCast]at h
  rw[X.xx,h];rfl
 ·exact WR D 0 j r (by rw[F];simp) M h
def RL.gB (B:J):RL->U->Option (List Sc)
 | .var l ks,j=>some (qC l j 0 ks)
 | .one r,_=>some r
 | .app n a b,j=>match red B (mkLt j n)with
  | .lit true=>a.gB B j
  | .lit false=>b.gB B (mkSub j n)
  | c=>match a.gB B j,b.gB B (mkSub j n)with
   | some x,some y=>np c x y
   | _,_=>none
 | .drop n a,j=>a.gB B (mkAdd j n)
 | .eN i r a,j=>match red B (mkEq j i)with
  | .lit true=>some r
  | .lit false=>a.gB B j
  | c=>match a.gB B j with
   | some y=>np c r y
   | none=>none
 | .ite c a b,j=>match red B c with
  | .lit true=>a.gB B j
  | .lit false=>b.gB B j
  | c=>match a.gB B j,b.gB B j with
   | some x,some y=>np c x y
   | _,_=>none
theorem RL.lr {ρ:aa} {B:J} (u:J.ok ρ B):∀{l:RL} {j:U} {r:List Sc},l.gB B j=some r->cd ρ r=l.row ρ (j.I ρ)
 | .var l ks,j,r,h=>by
  simp only[RL.gB,Option.some.injEq]at h
  subst h
  exact Ao ρ l j 0 ks
 | .one s,j,r,h=>by
  simp only[RL.gB,Option.some.injEq]at h
  subst h;rfl
 | .app n a b,j,r,h=>by
  simp only[RL.gB]at h
  have H:=(dc u (mkLt j n)).trans (hh ρ j n)
  simp only[RL.row]
  split at h
  ·rename_i hd
   rw[hd]at H
   have:=of_decide_eq_true (H.symm)
   rw[if_pos this]
   exact RL.lr u h
  ·rename_i hd
   rw[hd]at H
   have:=of_decide_eq_false (H.symm)
   rw[if_neg this,<-nq]
   exact RL.lr u h
  ·split at h
   ·rename_i x y A E
    rw[vW h,RL.lr u A,RL.lr u E,nq,H]
    by_cases W:U.I ρ j<U.I ρ n
    ·rw[if_pos (decide_eq_true W),if_pos W]
    ·rw[if_neg (by simpa using W),if_neg W]
   ·cases h
 | .drop n a,j,r,h=>by
  simp only[RL.gB]at h
  simp only[RL.row]
  rw[<-fo]
  exact RL.lr u h
 | .eN i q a,j,r,h=>by
  simp only[RL.gB]at h
  have H:=(dc u (mkEq j i)).trans (eX ρ j i)
  simp only[RL.row]
  split at h
  ·rename_i hd
   rw[hd]at H
   cases h
   rw[if_pos (by simpa [BE.I]using H.symm)]
  ·rename_i hd
   rw[hd]at H
   rw[if_neg (by simpa [BE.I]using H.symm)]
   exact RL.lr u h
  ·split at h
   ·rename_i y E
    rw[vW h,RL.lr u E,H]
    by_cases W:U.I ρ j=U.I ρ i
    ·rw[if_pos (by simpa using W),if_pos W]
    ·rw[if_neg (by simpa using W),if_neg W]
   ·cases h
 | .ite c a b,j,r,h=>by
  simp only[RL.gB]at h
  simp only[RL.row]
  have H:=dc u c
  split at h
  ·rename_i hd
   rw[hd]at H
   rw[if_pos (show BE.I ρ c=true from H.symm)]
   exact RL.lr u h
  ·rename_i hd
   rw[hd]at H
   rw[if_neg (by rw[<-H];simp[BE.I])]
   exact RL.lr u h
  ·split at h
   ·rename_i x y A E
    rw[vW h,RL.lr u A,RL.lr u E,H]
   ·cases h
def iI (h:av) (n:Nm):Bool:=(bl h n).isSome
theorem jS {ρ:aa} {h:av} {n:Nm} (u:iI h n=true):(ae (aK ρ h) n).isSome=true:=by
 rw[cL];unfold iI at u;simpa using u
def eL {am:Type}:Option am->T am
 | some a => .ret a
 | none=>(.fail [])
theorem fa {am:Type} {ρ:aa} {o:Option am} {a:am} (h:(eL o).aq ρ=some a):o=some a:=by
 cases o with
 | none=>cases h
 | some b=>cases h;rfl
def HG (B:J) (e:U):U:=match fM B e with
 | ⟨some l,some h⟩=>if l=h then .lit l else e
 | _=>e
theorem XT {ρ:aa} {B:J} (u:J.ok ρ B) (e:U):(HG B e).I ρ=e.I ρ:=by
 unfold HG
 split
 ·rename_i l h R
  split
  ·rename_i F
   have:=g' u e
   rw[R]at this
   have A:=this.1 l rfl
   have E:=this.2 h rfl
   simp only[U.I];omega
  ·rfl
 ·rfl
theorem eK {ρ:aa} {a b:U} (h:(mkNot (mkLt a b)).I ρ=true):¬a.I ρ<b.I ρ:=fun W=>by
 rw[eA,hh,decide_eq_true W]at h;cases h
def EK (z t:Nat) (j:U):List X:=(List.range z).map fun k => .cQ t k j
theorem SC (ρ:aa) (z t:Nat) (j:U):X.af ρ (EK z t j)=(List.range z).map fun k=>(ρ.ct t k (j.I ρ).toNat).1:=by
 simp only[EK,X.mh,List.map_map];rfl
theorem PM {ρ:aa} {z:Nat} {m:U} {t j:Nat} (M:(j:Int)<m.I ρ):(bN ρ z m t)[j]? = some ((List.range z).map fun k=>(ρ.ct t k j).1):=by
 unfold bN
 rw[List.getElem?_map,List.getElem?_range (by omega)]
 rfl
theorem zj {ρ:aa} {z:Nat} {m:U} {t:Nat}:(bN ρ z m t).length=(m.I ρ).toNat:=by
 unfold bN;rw[List.length_map,List.length_range]
def H9 (B:J) (e m:U):List (List X)->Nat->Option (List X)
 | [],_=>none
 | r::D,q=>match red B (mkEq e (mkAdd m (.lit q)))with
  | .lit true=>some r
  | _=>H9 B e m D (q+1)
theorem Yv {ρ:aa} {B:J} (u:J.ok ρ B) {e m:U} {r:List X}:∀{D:List (List X)} {q:Nat},H9 B e m D q=some r->∃p:Nat,D[p]? = some r/\e.I ρ=m.I ρ+((q+p:Nat):Int)
 | [],_,h=>by cases h
 | r'::D,q,h=>by
  simp only[H9]at h
  split at h
  ·rename_i hr
   cases h
   have A:=dc u (mkEq e (mkAdd m (.lit q)))
   rw[hr,eX]at A
   have A:(e.I ρ==(mkAdd m (.lit (q:Int))).I ρ)=true:=A.symm
   rw[fo,beq_iff_eq]at A
   exact⟨0,rfl,A⟩
  ·obtain⟨p,A,E⟩:=Yv u h
   exact⟨p+1,A,by rw[E];congr 2;omega⟩
def M9 (i:TI) (h:av) (B:J) (x y:X):T X :=
 match x,y with
 | .ptr n aG d,.sc (.i _ e)=>match i.arr with
  | some (len,z)=>if iI h n=true then g_ B e (.lit len) fun _ => .ret (HM n aG d (HG B e) z len)else(.fail [])
  | none=>(.fail [])
 | .ip cs aG d,.sc (.i _ e)=>match i.arr with
  | some (len,z)=>g_ B e (.lit len) fun _ => .ret (Nf cs aG d (HG B e) z len)
  | none=>(.fail [])
 | .sl n z off len _,.sc (.i _ e)=>match i.sl with
  | some (_,z')=>if(Nat.beq z' z&&iI h n)=true then g_ B e (.lit len) fun _ => .ret (HM n [] off e z len)else(.fail [])
  | none=>(.fail [])
 | .ro z D _,.sc (.i _ e)=>match i.sl with
  | some (_,z')=>if Nat.beq z' z=true then g_ B e (.lit D.length) fun _=>eL ((rowAt e D).map fun r => .ip r [] 0)else(.fail [])
  | none=>(.fail [])
 | .rl z n l _,.sc (.i _ e)=>match i.sl with
  | some (_,z')=>if Nat.beq z' z=true then g_ B e n fun B=>eL ((l.gB B e).map fun r => .ip (CH r) [] 0)else(.fail [])
  | none=>(.fail [])
 | .rn z n l ks _,.sc (.i _ e)=>match i.sl with
  | some (_,z')=>if Nat.beq z' z=true then g_ B e n fun _ => .ret (.ip (iu l e 0 ks) [] 0)else(.fail [])
  | none=>(.fail [])
 | .tq z m t D _,.sc (.i _ e)=>match i.sl with
  | some (_,z')=>if Nat.beq z' z=true then want B (mkNot (mkLt m (.lit 0))) fun B=>(match H9 B e m D 0 with
   | some r => .ret (.ip r [] 0)
   | none=>g_ B e m fun _ => .ret (.ip (EK z t e) [] 0))else(.fail [])
  | none=>(.fail [])
 | _,_=>(.fail [])
theorem mJ {ρ:aa} {n:U} {l:RL} {j:Nat} (M:(j:Int)<n.I ρ):(aX ρ n l)[j]? = some (l.row ρ j):=by
 unfold aX
 rw[List.getElem?_map,List.getElem?_range (by omega)]
 rfl
theorem YC {ρ:aa} {n:U} {l:Nat} {ks:List Nk} {j:Nat} (M:(j:Int)<n.I ρ):(fW ρ n l ks)[j]? = some (dx ρ l 0 ks j):=by
 unfold fW
 rw[List.getElem?_map,List.getElem?_range (by omega)]
 rfl
theorem agX {P:Program} {ρ:aa} {ty:TypeId} {h:av} {B:J} {x y v:X} (u:J.ok ρ B) (R:(M9 (cx P ty) h B x y).aq ρ=some v):jL P (aK ρ h) ty (x.I ρ) (y.I ρ)=some (v.I ρ):=by
 unfold M9 at R
 split at R
 ·split at R
  ·rename_i n aG d k e len z ha
   split at R
   ·rename_i ho
    obtain⟨aQ,j,_,F,M,R⟩:=lR u R
    cases R
    simp only[U.I]at M
    rw[X5 ((XT u _).trans F) (by omega)]
    have dG:ey P ty=some (len,z):=ha
    simp only[X.I,Sc.I,jL,dG,F',F,jS ho,Int.toNat_natCast]
    rw[if_pos ⟨trivial,by omega,by omega⟩]
   ·cases R
  ·cases R
 ·split at R
  ·rename_i cs aG d k e len z ha
   obtain⟨aQ,j,_,F,M,R⟩:=lR u R
   cases R
   simp only[U.I]at M
   rw[ag7 ((XT u _).trans F) (by omega)]
   have dG:ey P ty=some (len,z):=ha
   simp only[X.I,Sc.I,jL,dG,M7,F,Int.toNat_natCast]
   rw[if_pos ⟨by omega,by omega⟩]
  ·cases R
 ·split at R
  ·rename_i n z off len own k e ee z' ha
   split at R
   ·rename_i ho
    simp only[Bool.and_eq_true]at ho
    have hz:=Nat.eq_of_beq_eq_true ho.1
    subst hz
    obtain⟨aQ,j,_,F,M,R⟩:=lR u R
    cases R
    simp only[U.I]at M
    rw[X5 F (by omega)]
    have dG:bE P ty=some (ee,z'):=ha
    simp only[X.I,Sc.I,jL,dG,Ga,F,jS ho.2,Int.toNat_natCast,choose]
    rw[if_pos ⟨trivial,trivial,by omega,by omega⟩]
   ·cases R
  ·cases R
 ·split at R
  ·rename_i z D full k e ee z' ha
   split at R
   ·rename_i ho
    have hz:=Nat.eq_of_beq_eq_true ho
    subst hz
    obtain⟨aQ,j,_,F,M,R⟩:=lR u R
    obtain⟨r,hr,rfl⟩:=Option.map_eq_some_iff.1 (fa R)
    simp only[U.I]at M
    have gH:=aqv (ρ:=ρ) F (by omega) hr
    have dG:bE P ty=some (ee,z'):=ha
    simp only[X.I,Sc.I,jL,dG,vF,F,Int.toNat_natCast,gH,yi,choose]
    rw[if_pos ⟨trivial,by omega⟩]
   ·cases R
  ·cases R
 ·split at R
  ·rename_i z n l full k e ee z' ha
   split at R
   ·rename_i ho
    have hz:=Nat.eq_of_beq_eq_true ho
    subst hz
    obtain⟨aQ,j,aJ,F,M,R⟩:=lR u R
    obtain⟨r,hr,rfl⟩:=Option.map_eq_some_iff.1 (fa R)
    have gH:=RL.lr (ρ:=ρ) aJ hr
    rw[F]at gH
    have dG:bE P ty=some (ee,z'):=ha
    simp only[X.I,Sc.I,jL,dG,vF,F,Int.toNat_natCast,mJ M,yi,choose,OU,gH]
    rw[if_pos ⟨trivial,by omega⟩]
   ·cases R
  ·cases R
 ·split at R
  ·rename_i z n l ks full k e ee z' ha
   split at R
   ·rename_i ho
    have hz:=Nat.eq_of_beq_eq_true ho
    subst hz
    obtain⟨aQ,j,aJ,F,M,R⟩:=lR u R
    cases R
    have dG:bE P ty=some (ee,z'):=ha
    simp only[X.I,Sc.I,jL,dG,vF,F,Int.toNat_natCast,YC M,yi,choose,qD]
    rw[if_pos ⟨trivial,by omega⟩]
   ·cases R
  ·cases R
 ·split at R
  ·rename_i z m t D full k e _ ee z' ha
   split at R
   ·rename_i ho
    have hz:=Nat.eq_of_beq_eq_true ho
    subst hz
    obtain⟨f0,bt,A,R⟩:=c4 u R
    have A:=eK A
    simp only[U.I]at A
    have dG:bE P ty=some (ee,z'):=ha
    split at R
    ·rename_i r hr
     cases R
     obtain⟨p,hp,F⟩:=Yv bt hr
     have Z:(bN ρ z' m t++X.a7 ρ D)[(e.I ρ).toNat]? = some (X.af ρ r):=by
      rw[List.getElem?_append_right (by rw[zj];omega),zj,show(e.I ρ).toNat-(m.I ρ).toNat=p from by omega,X.xx,hp];rfl
     simp only[X.I,Sc.I,jL,dG,vF,Z,yi,choose]
     rw[if_pos ⟨trivial,by omega⟩]
    ·obtain⟨aQ,j,aJ,F,M,R⟩:=lR bt R
     cases R
     have Z:(bN ρ z' m t++X.a7 ρ D)[j]? = some ((List.range z').map fun k=>(ρ.ct t k j).1):=by
      rw[List.getElem?_append_left (by rw[zj];omega)]
      exact PM M
     simp only[X.I,Sc.I,jL,dG,vF,F,Int.toNat_natCast,Z,yi,choose,SC]
     rw[if_pos ⟨trivial,by omega⟩]
   ·cases R
  ·cases R
 ·cases R
def LG (i:TI) (h:av) (f:Nat) (x:X):Option X :=
 match i.rc with
 | some l=>match l[f]? with
  | some (o,_)=>match x with
   | .ptr n aG d=>if iI h n=true then some (.ptr n (wN o aG) (d+o))else none
   | .ip cs aG d=>some (.ip cs (wN o aG) (d+o))
   | .dz n z j p=>if iI h n=true then some (.dz n z j (p+o))else none
   | _=>none
  | none=>none
 | none=>none
theorem aff {P:Program} {ρ:aa} {ty:TypeId} {h:av} {f:Nat} {x v:X} (R:LG (cx P ty) h f x=some v):A1 P (aK ρ h) ty f (x.I ρ)=some (v.I ρ):=by
 unfold LG at R
 split at R
 ·rename_i l O
  have bY:ji P ty=some l:=O
  split at R
  ·rename_i o z hf
   simp only[A1,bY,hf,LD]
   split at R
   ·split at R
    ·rename_i ho
     cases R
     simp only[X.I,jS ho,if_true,Ax]
    ·cases R
   ·cases R
    simp only[X.I,Ax]
   ·split at R
    ·rename_i ho
     cases R
     simp only[X.I,jS ho,if_true,Nat.add_assoc]
    ·cases R
   ·cases R
  ·cases R
 ·cases R
end Go.Proofs.Xw
namespace Go.Proofs.Xw
open Go Go.Proofs.Aw
theorem WS (a b:Nat):Nat.beq a b=(a==b):=by rw[Bool.eq_iff_iff];simp
def LH (i:TI) (f:Nat):X->Option X
 | .agg cs=>match i.rc,i.X9 with
  | some l,some bs=>match l[f]?,bs[f]? with
   | some (o,z),some b=>tM b z cs o
   | _,_=>none
  | _,_=>none
 | _=>none
theorem afh {P:Program} {ρ:aa} {ty:TypeId} {f:Nat} {x v:X} (R:LH (cx P ty) f x=some v):A4 P ty f (x.I ρ)=some (v.I ρ):=by
 unfold LH at R
 split at R
 ·split at R
  ·rename_i cs l bs O hb
   have bY:ji P ty=some l:=O
   have gc:CZ P ty=some bs:=hb
   split at R
   ·rename_i o z b A E
    simp only[X.I,A4,bY,gc,A,E,Fk]
    exact y_ R
   ·cases R
  ·cases R
 ·cases R
def GX:TE->U->U
 | .lit s,.lit j => .lit (((s[j.toNat]?).getD 0).toNat)
 | t,j => .fJ t j
theorem WD (ρ:aa) (t:TE) (j:U):(GX t j).I ρ=(((t.I ρ)[(j.I ρ).toNat]?).getD 0).toNat:=by
 unfold GX;split<;>simp[U.I,TE.I]
def Nb (i:TI) (B:J) (x y:X):T X :=
 match x,y with
 | .agg cs,.sc (.i _ e)=>match i.arr with
  | some (len,z)=>g_ B e (.lit len) fun _=>eL (match e with
   | .lit j=>tM i.sv z cs (j.toNat*z)
   | e=>y8 i.sv z cs (vG e z len [] 0) (0+(len-1)*z))
  | none=>(.fail [])
 | .sc (.s t),.sc (.i _ e)=>if i.str=true then g_ B e (tz t) fun _ => .ret (.sc (.i .u8 (GX t e)))else(.fail [])
 | _,_=>(.fail [])
theorem ag2 {P:Program} {ρ:aa} {ty:TypeId} {B:J} {x y v:X} (u:J.ok ρ B) (R:(Nb (cx P ty) B x y).aq ρ=some v):yl P ty (x.I ρ) (y.I ρ)=some (v.I ρ):=by
 unfold Nb at R
 split at R
 ·split at R
  ·rename_i cs k e len z ha
   obtain⟨aQ,j,_,F,M,R⟩:=lR u R
   have R:=fa R
   simp only[U.I]at M
   have dG:ey P ty=some (len,z):=ha
   simp only[X.I,Sc.I,yl,dG,F,Int.toNat_natCast]
   rw[if_pos ⟨by omega,by omega⟩]
   split at R
   ·rename_i av5
    simp only[U.I]at F
    have:=y_ (ρ:=ρ) R
    rw[F,Int.toNat_natCast]at this
    exact this
   ·have:=HT (ρ:=ρ) R
    rw[EU F (by omega),choose,Nat.zero_add]at this
    exact this
  ·cases R
 ·split at R
  ·rename_i t k e hs
   have cB:nE P ty=true:=hs
   obtain⟨aQ,j,_,F,M,R⟩:=lR u R
   cases R
   rw[yL]at M
   simp only[X.I,Sc.I,yl,cB,F,Int.toNat_natCast,WD]
   rw[if_pos ⟨trivial,by omega⟩]
   have aT:j<(t.I ρ).size:=by omega
   have:(t.I ρ)[j]? = some ((t.I ρ)[j]'aT):=getElem?_pos (t.I ρ) j aT
   rw[this];rfl
  ·cases R
 ·cases R
def K5 {am:Type} (e:U) (k:J->Nat->T am):Nat->J->T am
 | 0,B=>want B (mkEq e (.lit 0)) fun B=>k B 0
 | m+1,B=>part B (mkEq e (.lit (m+1:Nat))) (fun B=>k B (m+1)) (fun B=>K5 e k m B)
theorem Zq {am:Type} {ρ:aa} {e:U} {k:J->Nat->T am} {a:am}:∀(n:Nat) {B:J},J.ok ρ B->(K5 e k n B).aq ρ=some a->∃aQ j,J.ok ρ aQ/\j<=n/\e.I ρ=(j:Nat)/\(k aQ j).aq ρ=some a
 | 0,B,u,h=>by
  obtain⟨aQ,aJ,A,h⟩:=c4 u h
  rw[eX,beq_iff_eq]at A
  exact⟨aQ,0,aJ,Nat.le_refl _,A,h⟩
 | m+1,B,u,h=>by
  obtain⟨aQ,aJ,⟨A,h⟩ | ⟨_,h⟩⟩:=Zs u h
  ·rw[eX,beq_iff_eq]at A
   exact⟨aQ,m+1,aJ,Nat.le_refl _,A,h⟩
  ·obtain⟨aux,j,E,h3,h4,h5⟩:=Zq m aJ h
   exact⟨aux,j,E,by omega,h4,h5⟩
def sJ {am:Type} (e:U) (n:Nat) (B:J) (k:J->Nat->T am):T am :=
 match e with
 | .lit j=>if decide (0<=j)&&Nat.ble j.toNat n then k B j.toNat else(.fail [])
 | e=>K5 e k n B
theorem zp {am:Type} {ρ:aa} {e:U} {k:J->Nat->T am} {a:am} {n:Nat} {B:J} (u:J.ok ρ B) (h:(sJ e n B k).aq ρ=some a):∃aQ j,J.ok ρ aQ/\j<=n/\e.I ρ=(j:Nat)/\(k aQ j).aq ρ=some a:=by
 unfold sJ at h
 split at h
 ·split at h
  ·rename_i j H
   simp only[Bool.and_eq_true,decide_eq_true_eq,Nat.ble_eq]at H
   exact⟨B,j.toNat,u,H.2,by simp only[U.I];omega,h⟩
  ·cases h
 ·exact Zq n u h
def nY:Option X->U->Option U
 | none,d=>some d
 | some (.sc (.i _ e)),_=>some e
 | _,_=>none
theorem k6 {ρ:aa} {x:Option X} {d e:U} {el:Nat} (h:nY x d=some e) (hd:d.I ρ=el) {j:Nat} (F:e.I ρ=j):ma el (x.map (X.I ρ))=some j:=by
 unfold nY at h
 split at h
 ·cases h
  simp only[Option.map_none,ma,Option.some.injEq];omega
 ·cases h
  simp only[Option.map_some,X.I,Sc.I,ma,F]
  rw[if_pos (by omega),Int.toNat_natCast]
 ·cases h
def qn (i:TI):X->U
 | .ro _ D _ => .lit D.length
 | .rl _ n _ _=>n
 | .sl _ _ _ len _ => .lit len
 | .ptr _ _ _=>match i.arr with | some (len,_) => .lit len | none => .lit 0
 | .sc (.s t)=>tz t
 | _ => .lit 0
def X4 (n:Nm) (z l k:Nat):List (BE×Nat)->Nat->Option X
 | [],d=>some (.sl n z (d+l*z) k false)
 | _,_=>none
def Qh (i:TI) (h:av) (B:J) (x:X) (lo hi:U) (hn:Bool):T X :=
 match x with
 | .ro z D full=>match i.sl with
  | some (_,z')=>if Nat.beq z' z=true then sJ hi D.length B fun B W=>sJ lo W B fun _ l => .ret (.ro z ((D.take W).drop l) (full&&Nat.beq W D.length))else(.fail [])
  | none=>(.fail [])
 | .rl z n l full=>match i.sl with
  | some (_,z')=>if Nat.beq z' z=true then
    want B (mkNot (mkLt lo (.lit 0))) fun B=>want B (mkNot (mkLt (mkSub hi lo) (.lit 0))) fun B=>want B (mkNot (mkLt n hi)) fun _ =>
     .ret (.rl z (mkSub hi lo) (match lo with | .lit 0=>l | lo => .drop lo l) (full&&hn))
   else(.fail [])
  | none=>(.fail [])
 | .sl n z off len own=>match i.sl with
  | some (_,z')=>if(Nat.beq z' z&&iI h n)=true then sJ hi len B fun B W=>sJ lo W B fun _ l => .ret (.sl n z (off+l*z) (W-l) own)else(.fail [])
  | none=>(.fail [])
 | .ptr n aG d=>match i.arr with
  | some (len,z)=>if iI h n=true then sJ hi len B fun B W=>sJ lo W B fun _ l=>eL (X4 n z l (W-l) aG d)else(.fail [])
  | none=>(.fail [])
 | .sc (.s t)=>if i.str=true then
   want B (mkNot (mkLt lo (.lit 0))) fun B=>want B (mkNot (mkLt hi lo)) fun B=>want B (mkNot (mkLt (tz t) hi)) fun _ =>
    .ret (.sc (.s (if(lo.beq (.lit 0)&&hi.beq (tz t))=true then t else .sub t lo hi)))
  else(.fail [])
 | .k (.slice none 0 0)=>match i.sl with
  | some _=>want B (mkEq lo (.lit 0)) fun B=>want B (mkEq hi (.lit 0)) fun _ => .ret (.k (.slice none 0 0))
  | none=>(.fail [])
 | _=>(.fail [])
theorem aqH {ρ:aa} {n hi lo:U} {l:RL} {a b:Nat} (A:lo.I ρ=a) (E:hi.I ρ=b) (h3:(b:Int)<=n.I ρ) (xU:a<=b) (m:RL) (hm:∀j:Nat,m.row ρ j=l.row ρ ((j+a:Nat):Int)) :
  aX ρ (mkSub hi lo) m=((aX ρ n l).take b).drop a:=by
 unfold aX
 apply List.ext_getElem?
 intro j
 rw[nq,A,E,List.getElem?_drop,List.getElem?_take,List.getElem?_map,List.getElem?_map]
 by_cases M:j<b-a
 ·rw[List.getElem?_range (by omega),if_pos (by omega),List.getElem?_range (by omega)]
  simp only[Option.map_some,Option.some.injEq]
  rw[hm j,Nat.add_comm]
 ·rw[List.getElem?_eq_none (by simp;omega)]
  by_cases Mr:a+j<b
  ·omega
  ·rw[if_neg Mr];rfl
theorem H8 {C:Ctx} {z:Nat} {D:List (List AV)} {f f':Bool} (hf:f'=true->f=true) {Y:Value} (h:ak C (.ro z D f) Y):ak C (.ro z D f') Y:=by
 obtain⟨ab,cap,A,E,h3,h4⟩:=iU.1 h
 exact iU.2 ⟨ab,cap,A,E,fun W=>h3 (hf W),h4⟩
def b' (a b:AV):Prop:=∀(C:Ctx) (Y:Value),ak C b Y->ak C a Y
theorem b'.refl (a:AV):b' a a:=fun _ _ h=>h
theorem b'.top (b:AV):b' .top b:=fun _ _ _=>by simp only[ak]
theorem b'.of_eq {a b:AV} (h:a=b):b' a b:=by subst h;exact b'.refl a
theorem arn {P:Program} {ρ:aa} {ty:TypeId} {h:av} {B:J} {x v:X} {lo hi:Option X} {l r:U} (u:J.ok ρ B) (O:nY lo (.lit 0)=some l) (hr:nY hi (qn (cx P ty) x)=some r)
  (R:(Qh (cx P ty) h B x l r hi.isNone).aq ρ=some v):∃w,qd P (aK ρ h) ty (x.I ρ) (lo.map (X.I ρ)) (hi.map (X.I ρ)) none=some w/\b' (v.I ρ) w:=by
 unfold Qh at R
 simp only[qd]
 split at R
 ·split at R
  ·rename_i z D full _ ee z' ha
   have dG:bE P ty=some (ee,z'):=ha
   split at R
   ·rename_i hz
    have hz:=Nat.eq_of_beq_eq_true hz
    subst hz
    obtain⟨f0,b,bt,hb,hX,R⟩:=zp u R
    obtain⟨lY,a,dV,Bo,iZ,R⟩:=zp bt R
    cases R
    have e1:=k6 (ρ:=ρ) O (el:=0) (by simp[U.I]) iZ
    have e2:=k6 (ρ:=ρ) hr (el:=kX P ty ((X.ro z' D full).I ρ)) (by simp[U.I,qn,X.I,kX,X.eH]) hX
    rw[e1,e2]
    have hlen:(X.a7 ρ D).length=D.length:=by simp[X.eH]
    simp only[r6,X.I,dG,hlen]
    rw[if_pos ⟨trivial,Bo,hb⟩]
    refine⟨_,rfl,b'.of_eq ?_⟩
    have Me:(Nat.beq b D.length)=(b==D.length):=WS _ _
    simp only[X.eH,List.map_drop,List.map_take,Me]
   ·cases R
  ·cases R
 ·split at R
  ·rename_i z n rl full _ ee z' ha
   have dG:bE P ty=some (ee,z'):=ha
   split at R
   ·rename_i hz
    have hz:=Nat.eq_of_beq_eq_true hz
    subst hz
    obtain⟨f0,bt,c1,R⟩:=c4 u R
    obtain⟨lY,dV,c2,R⟩:=c4 bt R
    obtain⟨zS,q0,c3,R⟩:=c4 dV R
    cases R
    have c1:=eK c1
    have c2:=eK c2
    have c3:=eK c3
    rw[nq]at c2
    simp only[U.I]at c1 c2
    obtain⟨a,iZ⟩:∃a:Nat,l.I ρ=a:=⟨(l.I ρ).toNat,by omega⟩
    obtain⟨b,hX⟩:∃b:Nat,r.I ρ=b:=⟨(r.I ρ).toNat,by omega⟩
    have hlen:(aX ρ n rl).length=(n.I ρ).toNat:=by simp[aX]
    have e1:=k6 (ρ:=ρ) O (el:=0) (by simp[U.I]) iZ
    have e2:=k6 (ρ:=ρ) hr (el:=kX P ty ((X.rl z' n rl full).I ρ)) (by simp only[qn,X.I,kX,hlen];omega) hX
    rw[e1,e2]
    simp only[r6,X.I,dG,hlen]
    rw[if_pos ⟨trivial,by omega,by omega⟩]
    refine⟨_,rfl,?_⟩
    rw[aqH (n:=n) (l:=rl) iZ hX (by omega) (by omega) _ (fun j => ?_)]
    ·intro C Y hu
     refine H8 (fun hf => ?_) hu
     simp only[Bool.and_eq_true]at hf ⊢
     refine⟨hf.1,?_⟩
     cases hi with
     | some y=>simp at hf
     | none =>
      simp only[nY,qn,Option.some.injEq]at hr
      subst hr
      simp only[beq_iff_eq];omega
    ·split
     ·simp only[U.I]at iZ
      rw[show j+a=j from by omega]
     ·simp only[RL.row,iZ]
      congr 1
   ·cases R
  ·cases R
 ·split at R
  ·rename_i n z off len own _ ee z' ha
   have dG:bE P ty=some (ee,z'):=ha
   split at R
   ·rename_i hz
    simp only[Bool.and_eq_true]at hz
    have BX:=Nat.eq_of_beq_eq_true hz.1
    subst BX
    obtain⟨f0,b,bt,hb,hX,R⟩:=zp u R
    obtain⟨lY,a,dV,Bo,iZ,R⟩:=zp bt R
    cases R
    have e1:=k6 (ρ:=ρ) O (el:=0) (by simp[U.I]) iZ
    have e2:=k6 (ρ:=ρ) hr (el:=kX P ty ((X.sl n z' off len own).I ρ)) (by simp[U.I,qn,X.I,kX]) hX
    rw[e1,e2]
    simp only[r6,X.I,dG]
    rw[if_pos ⟨trivial,jS hz.2,Bo,hb⟩]
    exact⟨_,rfl,b'.refl _⟩
   ·cases R
  ·cases R
 ·split at R
  ·rename_i n aG d _ len z ha
   have dG:ey P ty=some (len,z):=ha
   split at R
   ·rename_i hz
    obtain⟨f0,b,bt,hb,hX,R⟩:=zp u R
    obtain⟨lY,a,dV,Bo,iZ,R⟩:=zp bt R
    have R:=fa R
    unfold X4 at R
    split at R
    ·cases R
     have e1:=k6 (ρ:=ρ) O (el:=0) (by simp[U.I]) iZ
     have e2:=k6 (ρ:=ρ) hr (el:=kX P ty ((X.ptr n [] d).I ρ)) (by simp[U.I,qn,X.I,kX,dG,ha]) hX
     rw[e1,e2]
     simp only[r6,X.I,dG,choose]
     rw[if_pos ⟨jS hz,Bo,hb⟩]
     exact⟨_,rfl,b'.refl _⟩
    ·cases R
   ·cases R
  ·cases R
 ·split at R
  ·rename_i t hs
   have cB:nE P ty=true:=hs
   obtain⟨f0,bt,c1,R⟩:=c4 u R
   obtain⟨lY,dV,c2,R⟩:=c4 bt R
   obtain⟨zS,q0,c3,R⟩:=c4 dV R
   cases R
   have c1:=eK c1
   have c2:=eK c2
   have c3:=eK c3
   rw[yL]at c3
   simp only[U.I]at c1
   obtain⟨a,iZ⟩:∃a:Nat,l.I ρ=a:=⟨(l.I ρ).toNat,by omega⟩
   obtain⟨b,hX⟩:∃b:Nat,r.I ρ=b:=⟨(r.I ρ).toNat,by omega⟩
   have e1:=k6 (ρ:=ρ) O (el:=0) (by simp[U.I]) iZ
   have e2:=k6 (ρ:=ρ) hr (el:=kX P ty ((X.sc (.s t)).I ρ)) (by simp only[qn,X.I,Sc.I,kX,yL]) hX
   rw[e1,e2]
   simp only[r6,X.I,Sc.I,cB]
   rw[if_pos ⟨trivial,by omega,by omega⟩]
   refine⟨_,rfl,b'.of_eq ?_⟩
   split
   ·rename_i H
    simp only[Bool.and_eq_true]at H
    have A:=U.beq_eq _ _ H.1
    have E:=U.beq_eq _ _ H.2
    subst A E
    rw[yL]at hX
    simp only[U.I]at iZ
    have FF:a=0:=by omega
    have od:b=(t.I ρ).size:=by omega
    rw[FF,od,ByteArray.extract_zero_size]
   ·simp only[TE.I,iZ,hX,Int.toNat_natCast]
  ·cases R
 ·split at R
  ·rename_i TZ ha
   have dG:bE P ty=some TZ:=ha
   obtain⟨f0,bt,c1,R⟩:=c4 u R
   obtain⟨lY,dV,c2,R⟩:=c4 bt R
   cases R
   rw[eX]at c1 c2
   have c1:l.I ρ=(0:Nat):=by simpa [U.I]using c1
   have c2:r.I ρ=(0:Nat):=by simpa [U.I]using c2
   have e1:=k6 (ρ:=ρ) O (el:=0) (by simp[U.I]) c1
   have e2:=k6 (ρ:=ρ) hr (el:=kX P ty ((X.k (.slice none 0 0)).I ρ)) (by simp[qn,X.I,kX,U.I]) c2
   rw[e1,e2]
   simp only[r6,X.I,dG]
   exact⟨_,rfl,b'.refl _⟩
  ·cases R
 ·cases R
def Cg:X->Option Nat
 | .sc (.i _ (.lit n))=>if 0<=n then some n.toNat else none
 | _=>none
theorem NP {ρ:aa} {x:X} {n:Nat} (h:Cg x=some n):ma 0 (some (x.I ρ))=some n:=by
 unfold Cg at h
 split at h
 ·split at h
  ·rename_i h0
   cases h
   simp only[X.I,Sc.I,U.I,ma]
   rw[if_pos h0]
  ·cases h
 ·cases h
def Qf (i:TI) (h:av) (x:X) (lo:Option X) (hi mx:X):Option X :=
 match(match lo with | none=>some 0 | some v=>Cg v),Cg hi,Cg mx with
 | some l,some W,some m=>match x with
  | .ro z D _=>match i.sl with
   | some (_,z')=>if(Nat.beq z' z&&(Nat.ble l W&&(Nat.ble W m&&Nat.ble m D.length)))=true then some (.ro z ((D.take W).drop l) (Nat.beq m W))else none
   | none=>none
  | .sl n z _ len _=>match i.sl with
   | some (_,z')=>if(Nat.beq z' z&&(iI h n&&(Nat.beq W l&&(Nat.beq m l&&Nat.ble l len))))=true then some (.ro z [] true)else none
   | none=>none
  | _=>none
 | _,_,_=>none
theorem ark {P:Program} {ρ:aa} {ty:TypeId} {h:av} {x hi mx v:X} {lo:Option X} (R:Qf (cx P ty) h x lo hi mx=some v):qd P (aK ρ h) ty (x.I ρ) (lo.map (X.I ρ)) (some (hi.I ρ)) (some (mx.I ρ))=some (v.I ρ):=by
 unfold Qf at R
 split at R
 ·rename_i l W m A E h3
  have e1:ma 0 (lo.map (X.I ρ))=some l:=by
   cases lo with
   | none=>cases A;rfl
   | some w=>exact NP A
  have e2:=NP (ρ:=ρ) E
  have e3:=NP (ρ:=ρ) h3
  simp only[qd,e1,e2,e3,IB]
  split at R
  ·rename_i z D f
   split at R
   ·rename_i ee z' ha
    have dG:bE P ty=some (ee,z'):=ha
    split at R
    ·rename_i H
     cases R
     simp only[Bool.and_eq_true,Nat.ble_eq]at H
     obtain⟨c1,c2,c3,dE⟩:=H
     have c1:=Nat.eq_of_beq_eq_true c1
     simp only[X.I,dG]
     have hlen:(X.a7 ρ D).length=D.length:=by simp[X.eH]
     rw[if_pos ⟨c1,c2,c3,by rw[hlen];exact dE⟩]
     have:Nat.beq m W=(m==W):=by rw[Bool.eq_iff_iff];simp
     rw[this]
     simp[X.eH,List.map_take,List.map_drop]
    ·cases R
   ·cases R
  ·rename_i n z off len own
   split at R
   ·rename_i ee z' ha
    have dG:bE P ty=some (ee,z'):=ha
    split at R
    ·rename_i H
     cases R
     simp only[Bool.and_eq_true,Nat.ble_eq]at H
     obtain⟨c1,c2,c3,dE,c5⟩:=H
     simp only[X.I,dG]
     rw[if_pos ⟨Nat.eq_of_beq_eq_true c1,jS c2,Nat.eq_of_beq_eq_true c3,Nat.eq_of_beq_eq_true dE,c5⟩]
     rfl
    ·cases R
   ·cases R
  ·cases R
 ·cases R
end Go.Proofs.Xw
namespace Go.Proofs.Xw
open Go Go.Proofs.Aw
def jc (k k':IntKind) (x:X):T X:=if mw k k'=true then .ret x else(.fail [])
def Nd (op:BinOp) (B:J) (k:IntKind) (a:U) (k':IntKind) (b:U):T X :=
 match op with
 | .add=>jc k k' (.sc (.i k (ia .add k a b)))
 | .sub=>jc k k' (.sc (.i k (ia .sub k a b)))
 | .mul=>jc k k' (.sc (.i k (ia .mul k a b)))
 | .and=>jc k k' (.sc (.i k (ia .and k a b)))
 | .or=>jc k k' (.sc (.i k (ia .or k a b)))
 | .xor=>jc k k' (.sc (.i k (ia .xor k a b)))
 | .andNot=>jc k k' (.sc (.i k (ia .andNot k a b)))
 | .lss=>jc k k' (.sc (.b (mkLt a b)))
 | .leq=>jc k k' (.sc (.b (mkNot (mkLt b a))))
 | .gtr=>jc k k' (.sc (.b (mkLt b a)))
 | .geq=>jc k k' (.sc (.b (mkNot (mkLt a b))))
 | .eql=>jc k k' (.sc (.b (mkEq a b)))
 | .neq=>jc k k' (.sc (.b (mkNot (mkEq a b))))
 | .quo=>want B (mkNot (mkEq b (.lit 0))) fun _=>jc k k' (.sc (.i k (ia .quo k a b)))
 | .rem=>want B (mkNot (mkEq b (.lit 0))) fun _=>jc k k' (.sc (.i k (ia .rem k a b)))
 | .shl=>want B (mkNot (mkLt b (.lit 0))) fun _ => .ret (.sc (.i k (ia .shl k a b)))
 | .shr=>want B (mkNot (mkLt b (.lit 0))) fun _ => .ret (.sc (.i k (ia .shr k a b)))
theorem Qc {ρ:aa} {k k':IntKind} {x v:X} (h:(jc k k' x).aq ρ=some v):k=k'/\v=x:=by
 unfold jc at h
 split at h
 ·rename_i u;cases h;exact⟨ox u,rfl⟩
 ·cases h
theorem aes {a b:Int}:(!decide (a<b))=decide (b<=a):=by
 rw[Bool.eq_iff_iff];simp
theorem ag5 {ρ:aa} {op:BinOp} {B:J} {k k':IntKind} {a b:U} {v:X} (u:J.ok ρ B) (h:(Nd op B k a k' b).aq ρ=some v):(rm op k (a.I ρ) k' (b.I ρ)).map AV.sc=some (v.I ρ):=by
 cases op<;>simp only[Nd]at h
 case quo =>
  obtain⟨_,_,A,h⟩:=c4 u h
  obtain⟨rfl,rfl⟩:=Qc h
  rw[eA,eX]at A
  have ay:b.I ρ≠0:=by simpa [U.I]using A
  simp[rm,ay,X.I,Sc.I,oG,a_.I]
 case rem =>
  obtain⟨_,_,A,h⟩:=c4 u h
  obtain⟨rfl,rfl⟩:=Qc h
  rw[eA,eX]at A
  have ay:b.I ρ≠0:=by simpa [U.I]using A
  simp[rm,ay,X.I,Sc.I,oG,a_.I]
 case shl =>
  obtain⟨_,_,A,h⟩:=c4 u h
  cases h
  have A:=eK A
  simp only[U.I]at A
  have ay:0<=b.I ρ:=by omega
  simp[rm,ay,X.I,Sc.I,oG,a_.I]
 case shr =>
  obtain⟨_,_,A,h⟩:=c4 u h
  cases h
  have A:=eK A
  simp only[U.I]at A
  have ay:0<=b.I ρ:=by omega
  simp[rm,ay,X.I,Sc.I,oG,a_.I]
 all_goals
  obtain⟨rfl,rfl⟩:=Qc h
  simp only[rm,if_true,Option.map_some,X.I,Sc.I,oG,a_.I,hh,eA,eX,aes]
def Qt (op:BinOp) (a b:TE):Option X :=
 match op with
 | .eql=>some (.sc (.b (mkSeq a b)))
 | .neq=>some (.sc (.b (mkNot (mkSeq a b))))
 | .lss=>some (.sc (.b (.slt a b)))
 | .leq=>some (.sc (.b (mkOr (.slt a b) (mkSeq a b))))
 | .gtr=>some (.sc (.b (mkNot (mkOr (.slt a b) (mkSeq a b)))))
 | .geq=>some (.sc (.b (mkNot (.slt a b))))
 | _=>none
theorem arJ {ρ:aa} {op:BinOp} {a b:TE} {v:X} (h:Qt op a b=some v):(Dn op (a.I ρ) (b.I ρ)).map AV.sc=some (v.I ρ):=by
 cases op<;>simp only[Qt,Option.some.injEq,reduceCtorEq]at h<;>subst h<;>simp only[Dn,Option.map_some,X.I,Sc.I,Oc,eA,oI,BE.I]
def m4:List Nat->List X->List X->Option BE
 | [],[],[]=>some (.lit true)
 | k::ks,a::aG,b::bs =>
  match k,a,b with
  | 0,.sc (.b x),.sc (.b y)=>(m4 ks aG bs).map fun r=>mkAnd (mkIff x y) r
  | 1,.sc (.i i x),.sc (.i j y)=>if mw i j=true then(m4 ks aG bs).map fun r=>mkAnd (mkEq x y) r else none
  | 2,.sc (.s x),.sc (.s y)=>(m4 ks aG bs).map fun r=>mkAnd (mkSeq x y) r
  | _,_,_=>none
 | _,_,_=>none
theorem AM {ρ:aa}:∀{l:List Nat} {xs ys:List X} {e:BE},m4 l xs ys=some e->ai l (X.af ρ xs) (X.af ρ ys)=some (e.I ρ)
 | [],[],[],e,h=>by simp only[m4,Option.some.injEq]at h;subst h;rfl
 | k::ks,a::aG,b::bs,e,h=>by
  simp only[m4]at h
  split at h
  ·obtain⟨r,hr,rfl⟩:=Option.map_eq_some_iff.1 h
   simp only[X.af,X.I,Sc.I,ai,AM hr,Option.map_some,fQ,GY]
  ·split at h
   ·rename_i u
    obtain⟨r,hr,rfl⟩:=Option.map_eq_some_iff.1 h
    have u:=ox u
    simp only[X.af,X.I,Sc.I,ai,AM hr,Option.map_some,fQ,eX,u,if_true]
   ·cases h
  ·obtain⟨r,hr,rfl⟩:=Option.map_eq_some_iff.1 h
   simp only[X.af,X.I,Sc.I,ai,AM hr,Option.map_some,fQ,Oc]
  ·cases h
 | [],[],_::_,_,h=>by simp[m4]at h
 | [],_::_,_,_,h=>by simp[m4]at h
 | _::_,[],_,_,h=>by simp[m4]at h
 | _::_,_::_,[],_,h=>by simp[m4]at h
def J_ (e:U):BE:=mkAnd (mkLt (.lit (-9007199254740992)) e) (mkLt e (.lit 9007199254740992))
theorem adF {ρ:aa} {e:U} (h:(J_ e).I ρ=true):(e.I ρ).natAbs<2 ^ 53:=by
 unfold J_ at h
 rw[fQ,hh,hh,Bool.and_eq_true]at h
 have A:=of_decide_eq_true h.1
 have E:=of_decide_eq_true h.2
 simp only[U.I]at A E
 omega
def hF (B:J) (k:T X):List U->T X
 | []=>k
 | e::l=>want B (J_ e) fun _=>hF B k l
theorem il {ρ:aa} {B:J} {k:T X} {v:X} (u:J.ok ρ B):∀{l:List U},(hF B k l).aq ρ=some v->(∀e∈l,(e.I ρ).natAbs<2 ^ 53)/\k.aq ρ=some v
 | [],h=>⟨(fun _ F=>by cases F),h⟩
 | e::l,h=>by
  obtain⟨_,_,A,E⟩:=c4 u h
  obtain⟨g1,g2⟩:=il u E
  exact⟨fun d hd=>by
   rcases List.mem_cons.1 hd with rfl | hd
   ·exact adF A
   ·exact g1 d hd,g2⟩
structure Fl where
 n:U
 z:BE
noncomputable def Fl.I (ρ:aa) (a:Fl):Nat:=fv (a.n.I ρ) (a.z.I ρ)
theorem Um {n:Int} {a b:Bool} (h:n=0->a=b):fv n a=fv n b:=by
 by_cases h0:n=0
 ·rw[h h0]
 ·simp only[fv,a9,h0,if_false]
def Fl.add (a b:Fl):Fl:=⟨mkAdd a.n b.n,mkAnd (mkAnd a.z b.z) (mkEq a.n (.lit 0))⟩
def Fl.sub (a b:Fl):Fl:=⟨mkSub a.n b.n,mkAnd (mkAnd a.z (mkNot b.z)) (mkEq a.n (.lit 0))⟩
def Iy (n:U) (z:BE):BE:=iF (mkEq n (.lit 0)) z (mkLt n (.lit 0))
theorem ari (ρ:aa) (n:U) (z:BE):(Iy n z).I ρ=a9 (n.I ρ) (z.I ρ):=by
 unfold Iy a9
 rw[kM,eX,hh]
 simp only[U.I,beq_iff_eq]
 by_cases h:n.I ρ=0
 ·simp[h]
 ·rw[if_neg h,if_neg h];rfl
def Rn (a b:BE):BE:=mkNot (mkIff a b)
theorem auk (ρ:aa) (a b:BE):(Rn a b).I ρ=(a.I ρ ^^ b.I ρ):=by
 unfold Rn
 rw[eA,GY]
 cases a.I ρ<;>cases b.I ρ<;>rfl
def Fl.mul (a b:Fl):Fl:=⟨mkMul a.n b.n,Rn (Iy a.n a.z) (Iy b.n b.z)⟩
section
variable {ρ:aa} {a b:Fl}
theorem Fl.Em (ha:(a.n.I ρ).natAbs<2 ^ 53) (hb:(b.n.I ρ).natAbs<2 ^ 53) (hs:((a.add b).n.I ρ).natAbs<2 ^ 53):Ieee.double.add (a.I ρ) (b.I ρ)=some ((a.add b).I ρ):=by
 simp only[Fl.add,fo]at hs
 simp only[Fl.I,Fl.add,fo,fQ,eX,U.I]
 rw[afa ha hb hs]
 congr 1
 refine Um fun h0 => ?_
 unfold a9
 by_cases A:a.n.I ρ=0
 ·rw[if_pos A,if_pos (by omega)];simp[A]
 ·rw[if_neg A,if_neg (by omega)]
  have:(a.n.I ρ==0)=false:=by simpa using A
  rw[this,Bool.and_false]
  by_cases E:a.n.I ρ<0
  ·rw[decide_eq_false (show ¬b.n.I ρ<0 by omega),Bool.and_false]
  ·rw[decide_eq_false E,Bool.false_and]
theorem Fl.II (ha:(a.n.I ρ).natAbs<2 ^ 53) (hb:(b.n.I ρ).natAbs<2 ^ 53) (hs:((a.sub b).n.I ρ).natAbs<2 ^ 53):Ieee.double.sub (a.I ρ) (b.I ρ)=some ((a.sub b).I ρ):=by
 simp only[Fl.sub,nq]at hs
 simp only[Fl.I,Fl.sub,nq,fQ,eA,eX,U.I]
 rw[afv ha hb hs]
 congr 1
 refine Um fun h0 => ?_
 unfold a9
 by_cases A:a.n.I ρ=0
 ·rw[if_pos A,if_pos (by omega)];simp[A]
 ·rw[if_neg A,if_neg (by omega)]
  have:(a.n.I ρ==0)=false:=by simpa using A
  rw[this,Bool.and_false]
  by_cases E:a.n.I ρ<0
  ·rw[decide_eq_true (show b.n.I ρ<0 by omega)];simp
  ·rw[decide_eq_false E,Bool.false_and]
theorem Fl.Cu (ha:(a.n.I ρ).natAbs<2 ^ 53) (hb:(b.n.I ρ).natAbs<2 ^ 53) (hs:((a.mul b).n.I ρ).natAbs<2 ^ 53):Ieee.double.mul (a.I ρ) (b.I ρ)=some ((a.mul b).I ρ):=by
 simp only[Fl.mul,yJ]at hs
 simp only[Fl.I,Fl.mul,yJ,auk,ari]
 exact afn ha hb hs
theorem Fl.p4 (ha:(a.n.I ρ).natAbs<2 ^ 53) (hb:(b.n.I ρ).natAbs<2 ^ 53):Ieee.double.order (a.I ρ) (b.I ρ)=some (compare (a.n.I ρ) (b.n.I ρ)):=afp ha hb
end
theorem uT (n m:Int):(some (compare n m)==some Ordering.lt)=decide (n<m):=by
 by_cases h:n<m
 ·simp[compare,compareOfLessAndEq,h]
 ·by_cases E:n=m<;>simp[compare,compareOfLessAndEq,h,E]
theorem Kt (n m:Int):(some (compare n m)==some Ordering.gt)=decide (m<n):=by
 by_cases h:n<m
 ·simp[compare,compareOfLessAndEq,h];omega
 ·by_cases E:n=m
  ·simp[compare,compareOfLessAndEq,E]
  ·simp[compare,compareOfLessAndEq,h,E];omega
theorem uS (n m:Int):(some (compare n m)==some Ordering.eq)=(n==m):=by
 by_cases h:n<m
 ·simp[compare,compareOfLessAndEq,h];omega
 ·by_cases E:n=m<;>simp[compare,compareOfLessAndEq,h,E]
def LO (op:BinOp) (B:J) (a b:Fl):T X :=
 match op with
 | .add=>hF B (.ret (.sc (.f (a.add b).n (a.add b).z))) [a.n,b.n,(a.add b).n]
 | .sub=>hF B (.ret (.sc (.f (a.sub b).n (a.sub b).z))) [a.n,b.n,(a.sub b).n]
 | .mul=>hF B (.ret (.sc (.f (a.mul b).n (a.mul b).z))) [a.n,b.n,(a.mul b).n]
 | .eql=>hF B (.ret (.sc (.b (mkEq a.n b.n)))) [a.n,b.n]
 | .neq=>hF B (.ret (.sc (.b (mkNot (mkEq a.n b.n))))) [a.n,b.n]
 | .lss=>hF B (.ret (.sc (.b (mkLt a.n b.n)))) [a.n,b.n]
 | .leq=>hF B (.ret (.sc (.b (mkNot (mkLt b.n a.n))))) [a.n,b.n]
 | .gtr=>hF B (.ret (.sc (.b (mkLt b.n a.n)))) [a.n,b.n]
 | .geq=>hF B (.ret (.sc (.b (mkNot (mkLt a.n b.n))))) [a.n,b.n]
 | _ => .fail ["float"]
theorem le_iff (n m:Int):(decide (n<m)||n==m) = !decide (m<n):=by
 rw[Bool.eq_iff_iff];simp;omega
theorem afA (n m:Int):(decide (m<n)||n==m) = !decide (n<m):=by
 rw[Bool.eq_iff_iff];simp;omega
theorem afm {ρ:aa} {op:BinOp} {B:J} {a b:Fl} {v:X} (u:J.ok ρ B) (h:(LO op B a b).aq ρ=some v):(e6 op (a.I ρ) (b.I ρ)).map AV.sc=some (v.I ρ):=by
 cases op<;>simp only[LO]at h
 case add =>
  obtain⟨g,h⟩:=il u h
  cases h
  simp only[e6,Fl.Em (a:=a) (b:=b) (g _ (by simp)) (g _ (by simp)) (g _ (by simp))];rfl
 case sub =>
  obtain⟨g,h⟩:=il u h
  cases h
  simp only[e6,Fl.II (a:=a) (b:=b) (g _ (by simp)) (g _ (by simp)) (g _ (by simp))];rfl
 case mul =>
  obtain⟨g,h⟩:=il u h
  cases h
  simp only[e6,Fl.Cu (a:=a) (b:=b) (g _ (by simp)) (g _ (by simp)) (g _ (by simp))];rfl
 case eql =>
  obtain⟨g,h⟩:=il u h
  cases h
  simp only[e6,Fl.p4 (a:=a) (b:=b) (g _ (by simp)) (g _ (by simp)),uS,Option.map_some,X.I,Sc.I,eX]
 case neq =>
  obtain⟨g,h⟩:=il u h
  cases h
  simp only[e6,Fl.p4 (a:=a) (b:=b) (g _ (by simp)) (g _ (by simp)),bne,uS,Option.map_some,X.I,Sc.I,eX,eA]
 case lss =>
  obtain⟨g,h⟩:=il u h
  cases h
  simp only[e6,Fl.p4 (a:=a) (b:=b) (g _ (by simp)) (g _ (by simp)),uT,Option.map_some,X.I,Sc.I,hh]
 case leq =>
  obtain⟨g,h⟩:=il u h
  cases h
  simp only[e6,Fl.p4 (a:=a) (b:=b) (g _ (by simp)) (g _ (by simp)),uT,uS,le_iff,Option.map_some,X.I,Sc.I,hh,eA]
 case gtr =>
  obtain⟨g,h⟩:=il u h
  cases h
  simp only[e6,Fl.p4 (a:=a) (b:=b) (g _ (by simp)) (g _ (by simp)),Kt,Option.map_some,X.I,Sc.I,hh]
 case geq =>
  obtain⟨g,h⟩:=il u h
  cases h
  simp only[e6,Fl.p4 (a:=a) (b:=b) (g _ (by simp)) (g _ (by simp)),Kt,uS,afA,Option.map_some,X.I,Sc.I,hh,eA]
 all_goals cases h
def EG (a b:Fl):X := .sc (.c a.n a.z b.n b.z)
theorem adW (ρ:aa) (a b:Fl):(EG a b).I ρ = .sc (.complex .f64 (a.I ρ) (b.I ρ)):=rfl
def KF (op:BinOp) (B:J) (a b c d:Fl):T X :=
 match op with
 | .add=>hF B (.ret (EG (a.add c) (b.add d))) [a.n,c.n,(a.add c).n,b.n,d.n,(b.add d).n]
 | .sub=>hF B (.ret (EG (a.sub c) (b.sub d))) [a.n,c.n,(a.sub c).n,b.n,d.n,(b.sub d).n]
 | .mul=>hF B (.ret (EG ((a.mul c).sub (b.mul d)) ((a.mul d).add (b.mul c)))) [a.n,b.n,c.n,d.n,(a.mul c).n,(b.mul d).n,(a.mul d).n,(b.mul c).n,((a.mul c).sub (b.mul d)).n,((a.mul d).add (b.mul c)).n]
 | .eql=>hF B (.ret (.sc (.b (mkAnd (mkEq a.n c.n) (mkEq b.n d.n))))) [a.n,b.n,c.n,d.n]
 | .neq=>hF B (.ret (.sc (.b (mkNot (mkAnd (mkEq a.n c.n) (mkEq b.n d.n)))))) [a.n,b.n,c.n,d.n]
 | _ => .fail ["complex"]
theorem aeg {ρ:aa} {op:BinOp} {B:J} {a b c d:Fl} {v:X} (u:J.ok ρ B) (h:(KF op B a b c d).aq ρ=some v):(qH op (a.I ρ) (b.I ρ) (c.I ρ) (d.I ρ)).map AV.sc=some (v.I ρ):=by
 cases op<;>simp only[KF]at h
 case add =>
  obtain⟨g,h⟩:=il u h
  cases h
  simp only[qH,Fl.Em (a:=a) (b:=c) (g _ (by simp)) (g _ (by simp)) (g _ (by simp)),Fl.Em (a:=b) (b:=d) (g _ (by simp)) (g _ (by simp)) (g _ (by simp))];rfl
 case sub =>
  obtain⟨g,h⟩:=il u h
  cases h
  simp only[qH,Fl.II (a:=a) (b:=c) (g _ (by simp)) (g _ (by simp)) (g _ (by simp)),Fl.II (a:=b) (b:=d) (g _ (by simp)) (g _ (by simp)) (g _ (by simp))];rfl
 case mul =>
  obtain⟨g,h⟩:=il u h
  simp only[T.aq,Option.some.injEq]at h
  subst h
  simp only[List.forall_mem_cons]at g
  obtain⟨g1,g2,g3,g4,g5,g6,g7,Un,afx,g10,_⟩:=g
  have e1:=Fl.Cu (a:=a) (b:=c) g1 g3 g5
  have e2:=Fl.Cu (a:=b) (b:=d) g2 g4 g6
  have e3:=Fl.Cu (a:=a) (b:=d) g1 g4 g7
  have e4:=Fl.Cu (a:=b) (b:=c) g2 g3 Un
  have iV:=Fl.II (a:=a.mul c) (b:=b.mul d) g5 g6 afx
  have KZ:=Fl.Em (a:=a.mul d) (b:=b.mul c) g7 Un g10
  simp only[qH,e1,e2,e3,e4,KE,iV,KZ,adW,Option.map_some]
 case eql =>
  obtain⟨g,h⟩:=il u h
  cases h
  simp only[qH,Fl.p4 (a:=a) (b:=c) (g _ (by simp)) (g _ (by simp)),Fl.p4 (a:=b) (b:=d) (g _ (by simp)) (g _ (by simp)),uS,Option.map_some,X.I,Sc.I,eX,fQ]
 case neq =>
  obtain⟨g,h⟩:=il u h
  cases h
  simp only[qH,Fl.p4 (a:=a) (b:=c) (g _ (by simp)) (g _ (by simp)),Fl.p4 (a:=b) (b:=d) (g _ (by simp)) (g _ (by simp)),uS,Option.map_some,X.I,Sc.I,eX,fQ,eA]
 all_goals cases h
def J8 (i:TI) (B:J) (op:BinOp) (x y:X):T X :=
 match x,y with
 | .sc (.i k a),.sc (.i k' b)=>Nd op B k a k' b
 | .sc (.s a),.sc (.s b)=>eL (Qt op a b)
 | .sc (.b a),.sc (.b b)=>match i.xm,op with
  | true,.eql => .ret (.sc (.b (mkIff a b)))
  | true,.neq => .ret (.sc (.b (mkNot (mkIff a b))))
  | _,_=>(.fail [])
 | .sc (.f n z),.sc (.f m y)=>LO op B ⟨n,z⟩ ⟨m,y⟩
 | .sc (.c n z m y),.sc (.c n' z' m' DQ)=>KF op B ⟨n,z⟩ ⟨m,y⟩ ⟨n',z'⟩ ⟨m',DQ⟩
 | .agg xs,.agg ys=>match i.Wo,op with
  | some l,.eql=>eL ((m4 l xs ys).map fun e => .sc (.b e))
  | some l,.neq=>eL ((m4 l xs ys).map fun e => .sc (.b (mkNot e)))
  | _,_=>(.fail [])
 | _,_=>(.fail [])
theorem adD {P:Program} {ρ:aa} {ty:TypeId} {B:J} {op:BinOp} {x y v:X} (u:J.ok ρ B) (h:(J8 (cx P ty) B op x y).aq ρ=some v):gw P op ty (x.I ρ) (y.I ρ)=some (v.I ρ):=by
 unfold J8 at h
 split at h
 ·simp only[X.I,Sc.I,gw]
  exact ag5 u h
 ·simp only[X.I,Sc.I,gw]
  exact arJ (fa h)
 ·split at h
  ·rename_i hb
   have gc:xo P ty=true:=hb
   cases h
   simp only[X.I,Sc.I,gw,gc,GY]
  ·rename_i hb
   have gc:xo P ty=true:=hb
   cases h
   simp only[X.I,Sc.I,gw,gc,GY,eA]
  ·cases h
 ·have g:=afm u h
  simp only[Fl.I]at g
  simp only[X.I,Sc.I,gw]
  exact g
 ·have g:=aeg u h
  simp only[Fl.I]at g
  simp only[X.I,Sc.I,gw]
  exact g
 ·split at h
  ·rename_i l O
   have bY:vR P ty=some l:=O
   obtain⟨e,F,rfl⟩:=Option.map_eq_some_iff.1 (fa h)
   simp only[X.I,Sc.I,gw,bY,Option.bind_some,AM F,Option.map_some]
  ·rename_i l O
   have bY:vR P ty=some l:=O
   obtain⟨e,F,rfl⟩:=Option.map_eq_some_iff.1 (fa h)
   simp only[X.I,Sc.I,gw,bY,Option.bind_some,AM F,Option.map_some,eA]
  ·cases h
 ·cases h
def QY (B:J) (op:UnOp):X->T X
 | .sc (.b e) => match op with | .not => .ret (.sc (.b (mkNot e))) | _ => .fail ["op"]
 | .sc (.i k e) => match op with | .neg => .ret (.sc (.i k (ia .sub k (.lit 0) e))) | _ => .fail ["op"]
 | .sc (.f n z) => match op with | .neg => hF B (.ret (.sc (.f (mkSub (.lit 0) n) (mkNot z)))) [n] | _ => .fail ["op"]
 | .sc (.c n z m y) => match op with | .neg => hF B (.ret (.sc (.c (mkSub (.lit 0) n) (mkNot z) (mkSub (.lit 0) m) (mkNot y)))) [n, m] | _ => .fail ["op"]
 | _ => .fail ["op"]
theorem atk {ρ:aa} {B:J} {op:UnOp} {x v:X} (u:J.ok ρ B) (h:(QY B op x).aq ρ=some v):si op (x.I ρ)=some (v.I ρ):=by
 unfold QY at h
 split at h
 ·split at h
  ·cases h;simp only[X.I,Sc.I,si,eA]
  ·cases h
 ·split at h
  ·cases h;simp only[X.I,Sc.I,si,oG,a_.I,U.I]
  ·cases h
 ·split at h
  ·obtain⟨g,h⟩:=il u h
   cases h
   simp only[X.I,Sc.I,si,nq,eA,U.I,LP (g _ List.mem_cons_self),Int.zero_sub]
  ·cases h
 ·split at h
  ·obtain⟨g,h⟩:=il u h
   cases h
   simp only[X.I,Sc.I,si,nq,eA,U.I,LP (g _ List.mem_cons_self),LP (g _ (List.mem_cons_of_mem _ List.mem_cons_self)),Int.zero_sub]
  ·cases h
 ·cases h
def N' (k:IntKind):U->U
 | .lit n => .lit (k.wrap n)
 | e => .op .conv k e (.lit 0)
theorem aiy (ρ:aa) (k:IntKind) (e:U):(N' k e).I ρ=k.wrap (e.I ρ):=by
 unfold N';split<;>simp[U.I,a_.I]
def KC (B:J) (src dst:TI):X->T X
 | .sc (.i _ e)=>match dst.yj,src.QZ with
  | some k,true => .ret (.sc (.i k (N' k e)))
  | none,true=>(match dst.fl with
   | true=>hF B (.ret (.sc (.f (fz B e) (.lit false)))) [fz B e]
   | false => .fail ["conv"])
  | _, _ => .fail ["conv"]
 | .sc (.f n _)=>match dst.yj,src.QZ with
  | some .i64,true=>hF B (.ret (.sc (.i .i64 n))) [n]
  | _, _ => .fail ["conv"]
 | _ => .fail ["conv"]
theorem agT {n:Int} (h:n.natAbs<2 ^ 53):IntKind.i64.min<=n/\n<=IntKind.i64.max:=by
 have e1:IntKind.i64.min = -9223372036854775808:=by decide
 have e2:IntKind.i64.max=9223372036854775807:=by decide
 rw[e1,e2]
 omega
theorem aed {P:Program} {ρ:aa} {B:J} {src dst:TypeId} {x v:X} (u:J.ok ρ B) (h:(KC B (cx P src) (cx P dst) x).aq ρ=some v):xv P src dst (x.I ρ)=some (v.I ρ):=by
 have yj:∀{k:IntKind},Na P dst=some k->P.underlying dst=some (.int k):=fun aJ=>by
  unfold Na at aJ
  split at aJ
  ·rename_i hd;cases aJ;exact hd
  ·cases aJ
 unfold KC at h
 split at h
 ·split at h
  ·rename_i k bt hu
   have a3:(P.underlying src).isSome=true:=hu
   cases h
   simp only[X.I,Sc.I,xv,a3,if_true,uU,aiy,yj bt]
  ·rename_i bt hu
   have a3:(P.underlying src).isSome=true:=hu
   split at h
   ·rename_i hf
    obtain⟨g,h⟩:=il u h
    cases h
    have fw:P.underlying dst=some (.float .f64):=by
     have hf:LK P dst=true:=hf
     unfold LK at hf
     split at hf
     ·assumption
     ·cases hf
    have g1:=g _ List.mem_cons_self
    simp only[X.I,Sc.I,xv,a3,if_true,uU,fw,BE.I]
    rw[CC u]at g1 ⊢
    rw[afo _ g1]
   ·cases h
  ·cases h
 ·split at h
  ·rename_i bt hu
   have a3:(P.underlying src).isSome=true:=hu
   obtain⟨g,h⟩:=il u h
   cases h
   have g1:=g _ List.mem_cons_self
   simp only[X.I,Sc.I,xv,a3,if_true,uU,yj bt,afi g1,agT g1,and_self]
  ·cases h
 ·cases h
def AE:Builtin->List X->Option X
 | .real,[.sc (.c n z _ _)]=>some (.sc (.f n z))
 | .imag,[.sc (.c _ _ m y)]=>some (.sc (.f m y))
 | .complex,[.sc (.f n z),.sc (.f m y)]=>some (.sc (.c n z m y))
 | _,_=>none
theorem aef {ρ:aa} {b:Builtin} {xs:List X} {v:X} (h:AE b xs=some v):uV b (X.af ρ xs)=some (v.I ρ):=by
 unfold AE at h
 split at h
 ·cases h;rfl
 ·cases h;rfl
 ·cases h;rfl
 ·cases h
def A5 (place:Nat->Option (Nat×Nat)) (cells:List X):List (Nat×X)->Option (List X)
 | []=>some cells
 | (i,v)::r=>match place i with
  | none=>none
  | some (off,size)=>if(Nat.beq v.cells.length size&&(Nat.ble (off+size) cells.length&&v.cells.all X.one))=true then A5 place (t_ cells off v.cells) r else none
noncomputable def mY (ρ:aa) (ps:List (Nat×X)):List (Nat×AV):=ps.map fun p=>(p.1,p.2.I ρ)
theorem T6 {ρ:aa} {place:Nat->Option (Nat×Nat)}:∀{ps:List (Nat×X)} {cells cs:List X},A5 place cells ps=some cs->mj place (X.af ρ cells) (mY ρ ps)=some (X.af ρ cs)
 | [],_,_,h=>by simp only[A5,Option.some.injEq]at h;subst h;rfl
 | (i,v)::r,cells,cs,h=>by
  simp only[A5]at h
  simp only[mY,List.map_cons,mj]
  split at h
  ·cases h
  ·rename_i off size hp
   rw[hp]
   simp only
   split at h
   ·rename_i H
    simp only[Bool.and_eq_true,Nat.ble_eq]at H
    rw[X.Ar ρ v H.2.2,X.gg,X.gg,if_pos ⟨Nat.eq_of_beq_eq_true H.1,H.2.1,X.nV ρ _ H.2.2⟩,<-IE]
    exact T6 h
   ·cases h
def XU (i:TI):Nat->Option (Nat×Nat) :=
 match i.arr,i.rc with
 | some (_,z),_=>fun j=>some (j*z,z)
 | none,some l=>fun j=>l[j]?
 | none,none=>fun _=>none
def Kb (i:TI) (ps:List (Nat×X)):Option X :=
 match i.zero with
 | some zs=>if(i.arr.isSome||i.rc.isSome)=true then(A5 (XU i) (zs.map mG) ps).map .agg else none
 | none=>none
theorem Ho (ρ:aa) (l:List Value):X.af ρ (l.map mG)=l.map AV.sc:=by simp[X.mh,Xi]
theorem adN {P:Program} {ρ:aa} {ty:TypeId} {ps:List (Nat×X)} {v:X} (h:Kb (cx P ty) ps=some v):EF P ty (mY ρ ps) (fE P ty)=some (v.I ρ):=by
 unfold Kb at h
 split at h
 ·rename_i zs hz
  have ja:zeroV P ty=some zs:=hz
  split at h
  ·rename_i H
   obtain⟨cs,hf,rfl⟩:=Option.map_eq_some_iff.1 h
   rw[Jr,ja]
   simp only[Option.map_some,EF]
   have dH:((ey P ty).isSome||(ji P ty).isSome)=true:=H
   rw[if_pos dH,<-Ho ρ]
   have hp:XU (cx P ty)=placeOf P ty:=rfl
   rw[hp]at hf
   rw[T6 hf];rfl
  ·cases h
 ·cases h
def xz (z:Nat):Nat->List (Nat×X)->Bool
 | _,[]=>true
 | k,(i,v)::r=>Nat.beq i k&&(Nat.beq v.cells.length z&&(v.cells.all X.one&&xz z (k+1) r))
theorem Tl {ρ:aa} {z:Nat}:∀{ps:List (Nat×X)} {k:Nat},xz z k ps=true->ld z k (mY ρ ps)=true
 | [],_,_=>rfl
 | (i,v)::r,k,h=>by
  simp only[xz,Bool.and_eq_true]at h
  simp only[mY,List.map_cons,ld,Bool.and_eq_true,beq_iff_eq,X.Ar ρ v h.2.2.1,X.gg]
  exact⟨Nat.eq_of_beq_eq_true h.1,Nat.eq_of_beq_eq_true h.2.1,X.nV ρ _ h.2.2.1,Tl h.2.2.2⟩
def wv:List (Nat×X)->List (List X)
 | []=>[]
 | (_,v)::r=>v.cells::wv r
theorem Pe (ρ:aa) {z:Nat}:∀(ps:List (Nat×X)) {k:Nat},xz z k ps=true->X.a7 ρ (wv ps)=gL (mY ρ ps)
 | [],_,_=>rfl
 | (i,v)::r,k,h=>by
  simp only[xz,Bool.and_eq_true]at h
  simp only[wv,X.a7,mY,List.map_cons,gL,X.Ar ρ v h.2.2.1];rw[Pe ρ r h.2.2.2];rfl
def fg:List (List X)->List X
 | []=>[]
 | e::D=>e++fg D
theorem qR (ρ:aa):∀D,X.af ρ (fg D)=(X.a7 ρ D).flatten
 | []=>rfl
 | e::D=>by simp only[fg,X.a7,List.flatten_cons,X.gf,qR ρ D]
def RC (i:TI):Option Nat:=i.zero.map List.length
theorem avT (P:Program) (e:TypeId):RC (cx P e)=nL P e:=by
 unfold RC nL
 rw[Jr]
 show(zeroV P e).map List.length=_
 cases zeroV P e with
 | none=>rfl
 | some l=>simp
def Jt (i:TI) (z:Nat):Bool:=match RC i with | some z'=>Nat.beq z' z | none=>false
theorem abm {P:Program} {e:TypeId} {z:Nat} (h:Jt (cx P e) z=true):nL P e=some z:=by
 rw[<-avT]
 unfold Jt at h
 split at h
 ·rename_i z' ja;rw[ja,Nat.eq_of_beq_eq_true h]
 ·cases h
def Ka (n:Nat) (mu:Bool) (i:TI) (ti:Nat->Option TI) (len:Nat) (ps:List (Nat×X)):Option (X×aN) :=
 match i.sl with
 | some (e,z)=>match ti e with
  | some ie=>if(Jt ie z&&(Nat.ble (len*z) 16777216&&(Nat.beq ps.length len&&xz z 0 ps)))=true then
    (match mu with
    | false=>some (.ro z (wv ps) true,[])
    | true=>if b0 (fg (wv ps))=true then none else some (.sl (n,0) z 0 len true,[((n,0),some (fg (wv ps)))]))
   else none
  | none=>none
 | none=>none
def eO.ok (P:Program) (ti:Nat->Option TI):Prop:=∀t i,ti t=some i->i=cx P t
theorem adM {P:Program} {ρ:aa} {n:Nat} {mu:Bool} {ty:TypeId} {ti:Nat->Option TI} (bb:eO.ok P ti) {len:Nat} {ps:List (Nat×X)} {v:X} {d:aN} (h:Ka n mu (cx P ty) ti len ps=some (v,d)) :
  nZ P n mu ty len (mY ρ ps)=some (v.I ρ,bn ρ d):=by
 unfold Ka at h
 split at h
 ·rename_i e z hs
  have cB:bE P ty=some (e,z):=hs
  split at h
  ·rename_i ie gD
   have gD:=bb _ _ gD
   subst gD
   split at h
   ·rename_i H
    simp only[Bool.and_eq_true,Nat.ble_eq]at H
    obtain⟨A,E,h3,h4⟩:=H
    have hz:=abm A
    simp only[nZ,cB,hz]
    rw[if_pos ⟨trivial,E,by simpa [mY]using Nat.eq_of_beq_eq_true h3,Tl h4⟩]
    cases mu with
    | false=>cases h;simp only[X.I,Pe ρ ps h4];rfl
    | true =>
     simp only at h
     split at h
     ·cases h
     ·rename_i hr
      cases h;simp only[X.I,bn,List.map_cons,List.map_nil,Option.map_some,cR (ρ:=ρ) (show b0 (fg (wv ps))=false by simpa using hr),qR,Pe ρ ps h4]
   ·cases h
  ·cases h
 ·cases h
def NL (i:TI) (h:av) (B:J):X->T X
 | .ro _ D _=>if i.sl.isSome=true then .ret (.sc (.i .i64 (.lit D.length)))else(.fail [])
 | .rl _ n _ _=>if i.sl.isSome=true then want B (mkNot (mkLt n (.lit 0))) fun _ => .ret (.sc (.i .i64 n))else(.fail [])
 | .rn _ n _ _ _=>if i.sl.isSome=true then want B (mkNot (mkLt n (.lit 0))) fun _ => .ret (.sc (.i .i64 n))else(.fail [])
 | .tq _ m _ D _=>if i.sl.isSome=true then want B (mkNot (mkLt m (.lit 0))) fun _ => .ret (.sc (.i .i64 (mkAdd m (.lit D.length))))else(.fail [])
 | .sl m _ _ len _=>if(i.sl.isSome&&iI h m)=true then .ret (.sc (.i .i64 (.lit len)))else(.fail [])
 | .k (.slice _ m _)=>if i.sl.isSome=true then .ret (.sc (.i .i64 (.lit m)))else(.fail [])
 | .sc (.s t)=>if i.str=true then .ret (.sc (.i .i64 (tz t)))else(.fail [])
 | .agg _=>match i.arr with
  | some (n,_) => .ret (.sc (.i .i64 (.lit n)))
  | none=>(.fail [])
 | _=>(.fail [])
theorem ah2 {P:Program} {ρ:aa} {ty:TypeId} {h:av} {B:J} {x v:X} (u:J.ok ρ B) (R:(NL (cx P ty) h B x).aq ρ=some v):mA (je P (aK ρ h) ty (x.I ρ))=some (v.I ρ):=by
 unfold NL at R
 split at R
 ·split at R
  ·rename_i hs
   have cB:(bE P ty).isSome=true:=hs
   cases R
   simp only[X.I,je,cB,if_true,mA,Sc.I,U.I,X.eH,List.length_map]
  ·cases R
 ·split at R
  ·rename_i n l f hs
   have cB:(bE P ty).isSome=true:=hs
   obtain⟨_,_,A,R⟩:=c4 u R
   cases R
   have A:=eK A
   simp only[U.I]at A
   have:((aX ρ n l).length:Int)=n.I ρ:=by simp only[aX,List.length_map,List.length_range];omega
   simp only[X.I,je,cB,if_true,mA,Sc.I,this]
  ·cases R
 ·split at R
  ·rename_i n l ks f hs
   have cB:(bE P ty).isSome=true:=hs
   obtain⟨_,_,A,R⟩:=c4 u R
   cases R
   have A:=eK A
   simp only[U.I]at A
   have:((fW ρ n l ks).length:Int)=n.I ρ:=by simp only[fW,List.length_map,List.length_range];omega
   simp only[X.I,je,cB,if_true,mA,Sc.I,this]
  ·cases R
 ·split at R
  ·rename_i m t D f hs
   have cB:(bE P ty).isSome=true:=hs
   obtain⟨_,_,A,R⟩:=c4 u R
   cases R
   have A:=eK A
   simp only[U.I]at A
   have:∀z,((bN ρ z m t++X.a7 ρ D).length:Int)=(mkAdd m (.lit D.length)).I ρ:=fun z=>by
    rw[fo,List.length_append,zj,X.eH,List.length_map]
    simp only[U.I];omega
   simp only[X.I,je,cB,if_true,mA,Sc.I,this]
  ·cases R
 ·split at R
  ·rename_i m z off len own hs
   simp only[Bool.and_eq_true]at hs
   have cB:(bE P ty).isSome=true:=hs.1
   cases R
   simp only[X.I,je,cB,jS hs.2,and_self,if_true,mA,Sc.I,U.I]
  ·cases R
 ·split at R
  ·rename_i hs
   have cB:(bE P ty).isSome=true:=hs
   cases R
   simp only[X.I,je,cB,if_true,mA,Sc.I,U.I]
  ·cases R
 ·split at R
  ·rename_i hs
   have cB:nE P ty=true:=hs
   cases R
   simp only[X.I,je,cB,if_true,mA,Sc.I,yL]
  ·cases R
 ·split at R
  ·rename_i n z hs
   have cB:ey P ty=some (n,z):=hs
   cases R
   simp only[X.I,je,cB,Option.map_some,mA,Sc.I,U.I]
  ·cases R
 ·cases R
def Oa (a b:U):U:=if a.beq b=true then a else ia .max .i64 a b
theorem aiz (ρ:aa) (a b:U):(Oa a b).I ρ=Max.max (a.I ρ) (b.I ρ):=by
 unfold Oa;split
 ·rename_i h;rw[U.beq_eq _ _ h];omega
 ·rw[oG];rfl
def Ob (a b:U):U:=if a.beq b=true then a else ia .min .i64 a b
theorem aiA (ρ:aa) (a b:U):(Ob a b).I ρ=Min.min (a.I ρ) (b.I ρ):=by
 unfold Ob;split
 ·rename_i h;rw[U.beq_eq _ _ h];omega
 ·rw[oG];rfl
def Cm:X->List X->Option X
 | .sc (.i k a),[]=>some (.sc (.i k a))
 | .sc (.i k a),.sc (.i _ b)::r=>Cm (.sc (.i k (Oa a b))) r
 | _,_=>none
theorem Wt {ρ:aa}:∀{l:List X} {x v:X},Cm x l=some v->pO (x.I ρ) (X.af ρ l)=some (v.I ρ)
 | [],x,v,h=>by
  unfold Cm at h
  split at h
  ·cases h;simp only[X.af,X.I,Sc.I,pO]
  ·contradiction
  ·cases h
 | y::r,x,v,h=>by
  unfold Cm at h
  split at h
  ·contradiction
  ·rename_i k a k' b r' F
   cases F
   have:=Wt (ρ:=ρ) h
   simp only[X.I,Sc.I,aiz]at this
   simp only[X.af,X.I,Sc.I,pO]
   exact this
  ·cases h
def Co:X->List X->Option X
 | .sc (.i k a),[]=>some (.sc (.i k a))
 | .sc (.i k a),.sc (.i _ b)::r=>Co (.sc (.i k (Ob a b))) r
 | _,_=>none
theorem Wz {ρ:aa}:∀{l:List X} {x v:X},Co x l=some v->pP (x.I ρ) (X.af ρ l)=some (v.I ρ)
 | [],x,v,h=>by
  unfold Co at h
  split at h
  ·cases h;simp only[X.af,X.I,Sc.I,pP]
  ·contradiction
  ·cases h
 | y::r,x,v,h=>by
  unfold Co at h
  split at h
  ·contradiction
  ·rename_i k a k' b r' F
   cases F
   have:=Wz (ρ:=ρ) h
   simp only[X.I,Sc.I,aiA]at this
   simp only[X.af,X.I,Sc.I,pP]
   exact this
  ·cases h
end Go.Proofs.Xw
namespace Go.Proofs.Xw
open Go Go.Proofs.Aw
inductive Rows where
 | c (D:List (List X))
 | r (n:U) (l:RL)
noncomputable def Rows.I (ρ:aa):Rows->List (List AV)
 | .c D=>X.a7 ρ D
 | .r n l=>aX ρ n l
def n3 (z:Nat):Nat->List X->List (List X)
 | 0,_=>[]
 | k+1,cs=>cs.take z::n3 z k (cs.drop z)
theorem xu (ρ:aa) (z:Nat):∀(k:Nat) (cs:List X),X.a7 ρ (n3 z k cs)=chunk z k (X.af ρ cs)
 | 0,_=>rfl
 | k+1,cs=>by simp only[n3,X.a7,chunk,X.xy,xu ρ z k,X.qL]
def E7 (h:av) (z:Nat):X->Option Rows
 | .ro z' D _=>if Nat.beq z' z=true then some (.c D)else none
 | .rl z' n l _=>if Nat.beq z' z=true then some (.r n l)else none
 | .sl m z' off len _=>match pA h m with
  | some cs=>if(Nat.beq z' z&&Nat.ble (off+len*z) cs.length)=true then some (.c (n3 z len (cs.drop off)))else none
  | none=>none
 | .k (.slice none 0 0)=>some (.c [])
 | _=>none
theorem TJ {ρ:aa} {h:av} {z:Nat} {x:X} {r:Rows} (F:E7 h z x=some r):ez (aK ρ h) z (x.I ρ)=some (r.I ρ):=by
 unfold E7 at F
 split at F
 ·split at F
  ·rename_i hz;cases F;have hz:=Nat.eq_of_beq_eq_true hz;subst hz;simp only[X.I,ez,if_true,Rows.I]
  ·cases F
 ·split at F
  ·rename_i hz;cases F;have hz:=Nat.eq_of_beq_eq_true hz;subst hz;simp only[X.I,ez,if_true,Rows.I]
  ·cases F
 ·split at F
  ·rename_i cs Z
   split at F
   ·rename_i hz
    cases F
    simp only[Bool.and_eq_true,Nat.ble_eq]at hz
    have BX:=Nat.eq_of_beq_eq_true hz.1
    subst BX
    simp only[X.I,ez,x4 Z,Option.bind_some,X.gg,Rows.I,xu,X.qL]
    rw[if_pos ⟨trivial,hz.2⟩]
   ·cases F
  ·cases F
 ·cases F;simp only[X.I,ez,Rows.I,X.a7]
 ·cases F
def Af (z:Nat):X->Option Rows
 | .ro z' D true=>if Nat.beq z' z=true then some (.c D)else none
 | .rl z' n l true=>if Nat.beq z' z=true then some (.r n l)else none
 | .k (.slice none 0 0)=>some (.c [])
 | _=>none
theorem adz {ρ:aa} {z:Nat} {x:X} {r:Rows} (F:Af z x=some r):jv z (x.I ρ)=some (r.I ρ):=by
 unfold Af at F
 split at F
 ·split at F
  ·rename_i hz;cases F;have hz:=Nat.eq_of_beq_eq_true hz;subst hz;simp only[X.I,jv,if_true,Rows.I]
  ·cases F
 ·split at F
  ·rename_i hz;cases F;have hz:=Nat.eq_of_beq_eq_true hz;subst hz;simp only[X.I,jv,if_true,Rows.I]
  ·cases F
 ·cases F;simp only[X.I,jv,Rows.I,X.a7]
 ·cases F
def o5:List X->Option (List Sc)
 | []=>some []
 | .sc s::r=>(o5 r).map (s :: ·)
 | _=>none
theorem zA {ρ:aa}:∀{l:List X} {s:List Sc},o5 l=some s->cd ρ s=X.af ρ l
 | [],s,h=>by simp only[o5,Option.some.injEq]at h;subst h;rfl
 | x::r,s,h=>by
  unfold o5 at h
  split at h
  ·contradiction
  ·rename_i s' r' F
   cases F
   obtain⟨t,ht,rfl⟩:=Option.map_eq_some_iff.1 h
   have:=zA (ρ:=ρ) ht
   simp only[X.af,X.I,<-this]
   rfl
  ·cases h
def o4:List (List X)->Option RL
 | []=>none
 | [e]=>(o5 e).map .one
 | e::D=>match o5 e,o4 D with
  | some s,some l=>some (.app (.lit 1) (.one s) l)
  | _,_=>none
theorem Z1 {ρ:aa}:∀{D:List (List X)} {l:RL},o4 D=some l->∀j:Nat,j<D.length->(X.a7 ρ D)[j]? = some (l.row ρ j)
 | [],_,h,_,_=>by simp[o4]at h
 | [e],l,h,j,M=>by
  simp only[o4]at h
  obtain⟨s,hs,rfl⟩:=Option.map_eq_some_iff.1 h
  obtain rfl:j=0:=by simpa using M
  simp only[X.a7,List.getElem?_cons_zero,RL.row,zA hs]
 | e::e'::D,l,h,j,M=>by
  simp only[o4]at h
  split at h
  ·rename_i s l' hs O
   cases h
   simp only[RL.row]
   cases j with
   | zero =>
    rw[if_pos (show((0:Nat):Int)<(U.lit 1).I ρ from by simp[U.I])]
    simp only[X.a7,List.getElem?_cons_zero,zA hs]
   | succ j =>
    rw[if_neg (show ¬((j+1:Nat):Int)<(U.lit 1).I ρ from by simp only[U.I];omega),show((j+1:Nat):Int)-(U.lit 1).I ρ=(j:Nat)from by simp only[U.I];omega]
    have:=Z1 (ρ:=ρ) O j (by simpa using M)
    simpa only[X.a7,List.getElem?_cons_succ]using this
  ·cases h
theorem IT {ρ:aa} {D:List (List X)} {l:RL} (h:o4 D=some l):aX ρ (.lit D.length) l=X.a7 ρ D:=by
 apply List.ext_getElem?
 intro j
 by_cases M:j<D.length
 ·rw[Z1 h j M,mJ (by simp only[U.I];omega)]
 ·rw[List.getElem?_eq_none (by simp[aX,U.I];omega),List.getElem?_eq_none (by simp[X.eH];omega)]
theorem PK {ρ:aa} {n m:U} {a b:RL} (hn:0<=n.I ρ) (hm:0<=m.I ρ):aX ρ (mkAdd n m) (.app n a b)=aX ρ n a++aX ρ m b:=by
 apply List.ext_getElem?
 intro j
 obtain⟨x,hx⟩:∃x:Nat,n.I ρ=x:=⟨(n.I ρ).toNat,by omega⟩
 obtain⟨y,hy⟩:∃y:Nat,m.I ρ=y:=⟨(m.I ρ).toNat,by omega⟩
 have O:(aX ρ n a).length=x:=by simp[aX,hx]
 by_cases A:j<x
 ·rw[List.getElem?_append_left (by omega),mJ (by rw[fo];omega),mJ (by omega)]
  simp only[RL.row,hx]
  rw[if_pos (by omega)]
 ·rw[List.getElem?_append_right (by omega),O]
  by_cases E:j<x+y
  ·rw[mJ (by rw[fo];omega),mJ (by omega)]
   simp only[RL.row,hx]
   rw[if_neg (by omega),show(j:Int)-x=(j-x:Nat)from by omega]
  ·rw[List.getElem?_eq_none (by simp[aX,fo,hx,hy];omega),List.getElem?_eq_none (by simp[aX,hy];omega)]
def Rows.len:Rows->U
 | .c D => .lit D.length
 | .r n _=>n
def EJ:Rows->Rows->Option Rows
 | .c D,.c fs=>some (.c (D++fs))
 | .r n l,.c []=>some (.r n l)
 | .c [],.r n l=>some (.r n l)
 | .r n l,.c fs=>(o4 fs).map fun m => .r (mkAdd n (.lit fs.length)) (.app n l m)
 | .c D,.r n l=>(o4 D).map fun m => .r (mkAdd (.lit D.length) n) (.app (.lit D.length) m l)
 | .r n l,.r m k=>some (.r (mkAdd n m) (.app n l k))
theorem Rows.Ce {ρ:aa} {a:Rows} (h:0<=a.len.I ρ):((a.I ρ).length:Int)=a.len.I ρ:=by
 cases a with
 | c D=>simp[Rows.I,Rows.len,X.eH,U.I]
 | r n l=>simp only[Rows.len]at h;simp only[Rows.I,Rows.len,aX,List.length_map,List.length_range];omega
theorem SB {ρ:aa} {a b c:Rows} (ha:0<=a.len.I ρ) (hb:0<=b.len.I ρ) (h:EJ a b=some c):c.I ρ=a.I ρ++b.I ρ:=by
 unfold EJ at h
 split at h
 ·cases h;simp[Rows.I,X.eH]
 ·cases h;simp[Rows.I,X.a7]
 ·cases h;simp[Rows.I,X.a7]
 ·obtain⟨m,hm,rfl⟩:=Option.map_eq_some_iff.1 h
  simp only[Rows.I,<-IT hm]
  exact PK ha hb
 ·obtain⟨m,hm,rfl⟩:=Option.map_eq_some_iff.1 h
  simp only[Rows.I,<-IT hm]
  exact PK ha hb
 ·cases h
  exact PK ha hb
def An (b:Nat):Nat:=Nat.min (140737488355328 / b) 9223372036854775807
theorem EI {b n:Nat} (h:n<=An b):n*b<=140737488355328/\n<=9223372036854775807:=by
 have A:n<=140737488355328 / b:=Nat.le_trans h (Nat.min_le_left _ _)
 have E:n<=9223372036854775807:=Nat.le_trans h (Nat.min_le_right _ _)
 exact⟨Nat.mul_le_of_le_div b n _ A,E⟩
def Rows.ro (z:Nat):Rows->X
 | .c D => .ro z D false
 | .r n l => .rl z n l false
theorem Rows.Yq (ρ:aa) (z:Nat) (a:Rows):(a.ro z).I ρ = .ro z (a.I ρ) false:=by cases a<;>rfl
def wh {am:Type} (B:J) (a b:Rows) (k9:Nat) (k:J->T am):T am :=
 want B (mkNot (mkLt a.len (.lit 0))) fun B=>want B (mkNot (mkLt b.len (.lit 0))) fun B=>want B (mkNot (mkLt (.lit (An k9)) (mkAdd a.len b.len))) k
theorem zq {am:Type} {ρ:aa} {B:J} {a b:Rows} {k9:Nat} {k:J->T am} {x:am} (u:J.ok ρ B) (h:(wh B a b k9 k).aq ρ=some x) :
  ∃aQ,J.ok ρ aQ/\0<=a.len.I ρ/\0<=b.len.I ρ/\((a.I ρ).length+(b.I ρ).length)*k9<=140737488355328/\(a.I ρ).length+(b.I ρ).length<=9223372036854775807/\(k aQ).aq ρ=some x:=by
 obtain⟨f0,bt,c1,h⟩:=c4 u h
 obtain⟨lY,dV,c2,h⟩:=c4 bt h
 obtain⟨zS,q0,c3,h⟩:=c4 dV h
 have c1:=eK c1
 have c2:=eK c2
 have c3:=eK c3
 rw[fo]at c3
 simp only[U.I]at c1 c2 c3
 have l1:=Rows.Ce (ρ:=ρ) (a:=a) (by omega)
 have l2:=Rows.Ce (ρ:=ρ) (a:=b) (by omega)
 have:=EI (b:=k9) (n:=(a.I ρ).length+(b.I ρ).length) (by omega)
 exact⟨zS,q0,by omega,by omega,this.1,this.2,h⟩
def JT (n z b:Nat) (m:Nm) (w off len:Nat) (own:Bool) (cs:List X) (fs:List (List X)):Option (X×aN) :=
 if(!b0 (cs.drop off++fg fs)&&(Nat.beq w z&&(own&&(Nat.beq cs.length (off+len*z)&&((fg fs).all X.one&&Nat.ble (len+fs.length) (An b))))))=true then
  some (.sl (n,0) z 0 (len+fs.length) true,[(m,none),((n,0),some (cs.drop off++fg fs))])else none
theorem ac0 {P:Program} {ρ:aa} {n z:Nat} {m:Nm} {w off len:Nat} {own mu:Bool} {e:TypeId} {h:av} {cs:List X} {fs:List (List X)} {r:X×aN} (Z:pA h m=some cs) (R:JT n z (c' P e) m w off len own cs fs=some r) :
  ju P n (aK ρ h) mu e z (.sl m w off len own) (some (X.a7 ρ fs))=some (r.1.I ρ,bn ρ r.2):=by
 unfold JT at R
 split at R
 ·rename_i kq
  simp only[Bool.and_eq_true,Nat.ble_eq]at kq
  obtain⟨lc,g1,g3,g4,g5,g6⟩:=kq
  have lc:b0 (cs.drop off++fg fs)=false:=by simpa using lc
  have g1:=Nat.eq_of_beq_eq_true g1
  have g4:=Nat.eq_of_beq_eq_true g4
  subst g1
  cases R
  have kz:(X.a7 ρ fs).length=fs.length:=by simp[X.eH]
  have gi:=EI g6
  simp only[ju,x4 Z,uJ,X.gg,kz]
  rw[if_pos ⟨trivial,g3⟩,if_pos ⟨g4,by rw[<-qR];exact X.nV ρ _ g5,gi.1,gi.2⟩]
  simp only[X.I,bn,List.map_cons,List.map_nil,Option.map_some,Option.map_none,cR lc,X.gf,qR,X.qL]
 ·cases R
def zi (n z:Nat) (d:aN) (D fs:Rows):Option (X×aN) :=
 match EJ D fs with
 | some (.r N L)=>if(L.wd z&&(N.beq (mkAdd D.len fs.len)))=true then some (.slv (n,0) z (.lit 0) N true,d++[((n,0),some [.rows z N L])])else none
 | _=>none
theorem H' {ρ:aa} {n z:Nat} {d:aN} {D fs:Rows} {r:X×aN} (la:0<=D.len.I ρ) (lB:0<=fs.len.I ρ) (R:zi n z d D fs=some r) :
  (r.1.I ρ,bn ρ r.2)=(.sl (n,0) z 0 ((D.I ρ).length+(fs.I ρ).length) true,bn ρ d++[((n,0),some ((D.I ρ).flatten++(fs.I ρ).flatten))]):=by
 unfold zi at R
 split at R
 ·rename_i N L Mg
  split at R
  ·rename_i H
   simp only[Bool.and_eq_true]at H
   cases R
   have A:aX ρ N L=D.I ρ++fs.I ρ:=SB la lB Mg
   have E:=Rows.Ce la
   have h3:=Rows.Ce lB
   have h4:=U.beq_eq _ _ H.2
   have h5:(N.I ρ).toNat=(D.I ρ).length+(fs.I ρ).length:=by rw[h4,fo];omega
   simp only[X.I,U.I,h5,bn,List.map_append,List.map_cons,List.map_nil,Option.map_some,aB,A,List.flatten_append]
   simp
  ·cases R
 ·cases R
def Sa (n z b:Nat) (D fs:List (List X)):Option (X×aN) :=
 if(!b0 (fg D++fg fs)&&(Nat.ble (D.length+fs.length) (An b)&&Nat.blt 0 fs.length))=true then some (.sl (n,0) z 0 (D.length+fs.length) true,[((n,0),some (fg D++fg fs))])else none
def JQ (n:Nat) (mu:Bool) (z b:Nat) (B:J) (D fs:Rows):T (X×aN) :=
 match mu with
 | false=>wh B D fs b fun _=>eL ((EJ D fs).map fun r=>(r.ro z,[]))
 | true=>match D,fs with
  | .c D,.c fs=>eL (Sa n z b D fs)
  | D,fs=>wh B D fs b fun B=>want B (mkLt (.lit 0) fs.len) fun _=>eL (zi n z [] D fs)
theorem acW {ρ:aa} {n z b:Nat} {mu:Bool} {B:J} (u:J.ok ρ B) {D fs:Rows} {r:X×aN} (R:(JQ n mu z b B D fs).aq ρ=some r):nW n mu z b (fs.I ρ) (some (D.I ρ))=some (r.1.I ρ,bn ρ r.2):=by
 unfold JQ at R
 split at R
 ·obtain⟨aQ,_,la,lB,c1,c2,R⟩:=zq u R
  obtain⟨c,Mg,rfl⟩:=Option.map_eq_some_iff.1 (fa R)
  simp only[nW]
  rw[if_pos ⟨c1,c2,fun W=>(nomatch W)⟩,Rows.Yq,SB la lB Mg]
  rfl
 ·split at R
  ·rename_i D fs
   have R:=fa R
   unfold Sa at R
   split at R
   ·rename_i kq
    simp only[Bool.and_eq_true,Nat.ble_eq]at kq
    have lc:b0 (fg D++fg fs)=false:=by simpa using kq.1
    have kq:=kq.2
    cases R
    have sW:(X.a7 ρ D).length=D.length:=by simp[X.eH]
    have kz:(X.a7 ρ fs).length=fs.length:=by simp[X.eH]
    have gi:=EI kq.1
    have kB:0<fs.length:=by simpa [Nat.blt_eq]using kq.2
    simp only[nW,Rows.I,sW,kz]
    rw[if_pos ⟨gi.1,gi.2,fun _ W=>by rw[<-kz,W]at kB;simp at kB⟩]
    simp only[X.I,bn,List.map_cons,List.map_nil,Option.map_some,cR lc,X.gf,qR]
   ·cases R
  ·obtain⟨aQ,aJ,la,lB,c1,c2,R⟩:=zq u R
   obtain⟨lY,_,c3,R⟩:=c4 aJ R
   rw[hh]at c3
   have c3:=of_decide_eq_true c3
   simp only[U.I]at c3
   have O:=Rows.Ce (ρ:=ρ) lB
   simp only[nW]
   rw[if_pos ⟨c1,c2,fun _ W=>by rw[W]at O;simp at O;omega⟩]
   have:=fa R
   rw[H' la lB this]
   rfl
def Ia:Rows->Bool
 | .c D=>(fg D).all X.one
 | .r _ _=>true
theorem Zk (ρ:aa) (r:List Sc):(cd ρ r).all AV.one=true:=by
 unfold cd
 rw[List.all_eq_true]
 intro x hx
 obtain⟨s,_,rfl⟩:=List.mem_map.1 hx
 cases s<;>rfl
theorem EP (ρ:aa) (l j:Nat):∀(ks:List Kd) (k:Nat),(bR ρ l k ks j).all AV.one=true
 | [],_=>rfl
 | .i _::ks,k=>by simp only[bR,List.all_cons,EP ρ l j ks (k+1),Bool.and_true];rfl
 | .b::ks,k=>by simp only[bR,List.all_cons,EP ρ l j ks (k+1),Bool.and_true];rfl
 | .s::ks,k=>by simp only[bR,List.all_cons,EP ρ l j ks (k+1),Bool.and_true];rfl
theorem row_one (ρ:aa):∀(l:RL) (j:Int),(l.row ρ j).all AV.one=true
 | .var l ks,j=>EP ρ l _ ks 0
 | .one r,j=>Zk ρ r
 | .app n a b,j=>by
  simp only[RL.row]
  split
  ·exact row_one ρ a _
  ·exact row_one ρ b _
 | .drop n a,j=>row_one ρ a _
 | .eN i r a,j=>by
  simp only[RL.row]
  split
  ·exact Zk ρ r
  ·exact row_one ρ a _
 | .ite c a b,j=>by
  simp only[RL.row]
  split
  ·exact row_one ρ a _
  ·exact row_one ρ b _
theorem PL {ρ:aa} {fs:Rows} (h:Ia fs=true):(fs.I ρ).flatten.all AV.one=true:=by
 cases fs with
 | c D=>simp only[Rows.I,<-qR];exact X.nV ρ _ h
 | r n l =>
  simp only[Rows.I,aX]
  rw[List.all_eq_true]
  intro x hx
  obtain⟨r,hr,hx⟩:=List.mem_flatten.1 hx
  obtain⟨j,_,rfl⟩:=List.mem_map.1 hr
  exact List.all_eq_true.1 (row_one ρ l j) x hx
def zh (h:av) (m:Nm):Option (Nat×U×RL):=match bl h m with
 | some [.rows z n l]=>if l.wd z=true then some (z,n,l)else none
 | _=>none
theorem H_ {ρ:aa} {h:av} {m:Nm} {z:Nat} {n:U} {l:RL} (hr:zh h m=some (z,n,l)):ae (aK ρ h) m=some (aX ρ n l).flatten/\l.wd z=true:=by
 unfold zh at hr
 split at hr
 ·rename_i z' n' l' Z
  split at hr
  ·rename_i hw
   cases hr
   exact⟨by rw[cL,Z];rfl,hw⟩
  ·cases hr
 ·cases hr
theorem C6 {ρ:aa} {n:U} {l:RL} {z:Nat} (hw:l.wd z=true) (j:Nat) (e:List AV) (h:(aX ρ n l)[j]? = some e):e.length=z:=by
 unfold aX at h
 rw[List.getElem?_map]at h
 obtain⟨k,_,rfl⟩:=Option.map_eq_some_iff.1 h
 exact RL.uo hw
theorem qa (ρ:aa) (n:U) (l:RL):(aX ρ n l).length=(n.I ρ).toNat:=by simp[aX]
theorem wG {ρ:aa} {n:U} {l:RL} {z:Nat} (hw:l.wd z=true):(aX ρ n l).flatten.length=(n.I ρ).toNat*z:=by
 rw[gY _ (fun j e h=>C6 hw j e h),qa]
theorem Fp {ρ:aa} {n:U} {l:RL} {z j:Nat} (hw:l.wd z=true) (M:(j:Int)<n.I ρ) {k:Nat} (u:k<z):(aX ρ n l).flatten[j*z+k]? = (l.row ρ j)[k]? :=
 A9 _ (fun j e h=>C6 hw j e h) j _ (mJ M) k u
theorem row_in {j m z:Nat} (h:j<m):j*z+z<=m*z:=by rw[<-Nat.succ_mul];exact Nat.mul_le_mul_right z h
theorem afl {ρ:aa} {n:U} {l:RL} {z j:Nat} (hw:l.wd z=true) (M:(j:Int)<n.I ρ) {o s:Nat} (ho:o+s<=z):((aX ρ n l).flatten.drop (j*z+o)).take s=((l.row ρ j).drop o).take s:=by
 apply List.ext_getElem?
 intro i
 rw[List.getElem?_take,List.getElem?_take]
 split
 ·rename_i hi
  rw[List.getElem?_drop,List.getElem?_drop,Nat.add_assoc,Fp hw M (by omega)]
 ·rfl
theorem apB {ρ:aa} {n:U} {l:RL} {z j:Nat} (hw:l.wd z=true) (M:(j:Int)<n.I ρ) {o s:Nat} (ho:o+s<=z) (hz:o<z) (b:Option Bool) {v:AV} (h:jY b s (l.row ρ j) o=some v):jY b s (aX ρ n l).flatten (j*z+o)=some v:=by
 match b,h with
 | some true,h =>
  simp only[jY]at h ⊢
  split at h
  ·rename_i H
   have:=row_in (z:=z) (show j<(n.I ρ).toNat by omega)
   rw[if_pos ⟨H.1,by rw[wG hw];omega⟩,afl hw M ho]
   exact h
  ·cases h
 | some false,h =>
  simp only[jY]at h ⊢
  rw[Fp hw M hz];exact h
theorem PN {ρ:aa} {z:Nat} {m:U} {t:Nat} (j:Nat) (e:List AV) (h:(bN ρ z m t)[j]? = some e):e.length=z:=by
 unfold bN at h
 rw[List.getElem?_map]at h
 obtain⟨k,_,rfl⟩:=Option.map_eq_some_iff.1 h
 rw[List.length_map,List.length_range]
theorem QL {ρ:aa} {z:Nat} {m:U} {t:Nat} {D:List (List X)} (h:D.all (fun e=>Nat.beq e.length z)=true) (j:Nat) (e:List AV) (M:(bN ρ z m t++X.a7 ρ D)[j]? = some e):e.length=z:=by
 by_cases c:j<(bN ρ z m t).length
 ·rw[List.getElem?_append_left c]at M
  exact PN j e M
 ·rw[List.getElem?_append_right (by omega),X.eH,List.getElem?_map]at M
  obtain⟨r,hr,rfl⟩:=Option.map_eq_some_iff.1 M
  rw[X.gg]
  exact Nat.eq_of_beq_eq_true (List.all_eq_true.1 h r (List.mem_of_getElem? hr))
theorem YG {ρ:aa} {z:Nat} {m:U} {t:Nat}:(bN ρ z m t).flatten.length=(m.I ρ).toNat*z:=by
 rw[gY _ (fun j e h=>PN j e h)]
 unfold bN;rw[List.length_map,List.length_range]
theorem LM {ρ:aa} {z:Nat} {m:U} {t j:Nat} (M:(j:Int)<m.I ρ) {k:Nat} (u:k<z):(bN ρ z m t).flatten[j*z+k]? = some (ρ.ct t k j).1:=by
 rw[A9 _ (fun j e h=>PN j e h) j _ (PM M) k u,List.getElem?_map,List.getElem?_range u];rfl
def loadT (i:TI) (h:av) (B:J) (m:Nm) (z:Nat) (j:U) (o:Nat):T X :=
 match bl h m with
 | some [.tk z' n t []]=>if(Nat.beq z' z&&(Nat.ble (o+i.cells) z&&Nat.blt o z))=true then
   g_ B j n fun _=>eL (tM i.agg i.cells (EK z t j) o)
  else (.fail ["loadT"])
 | _ => (.fail ["rowsAt"])
theorem ah8 {P:Program} {ρ:aa} {ty:TypeId} {h:av} {B:J} {m:Nm} {z:Nat} {j:U} {o:Nat} {v:X} (u:J.ok ρ B) (R:(loadT (cx P ty) h B m z j o).aq ρ=some v):oC P (aK ρ h) ty ((X.dz m z j o).I ρ)=some (v.I ρ):=by
 unfold loadT at R
 split at R
 ·rename_i z' n t Z
  split at R
  ·rename_i H
   simp only[Bool.and_eq_true,Nat.ble_eq,Nat.blt_eq]at H
   have hz:=Nat.eq_of_beq_eq_true H.1
   subst hz
   obtain⟨aQ,q,aJ,F,M,R⟩:=lR u R
   have A:=y_ (ρ:=ρ) (fa R)
   rw[SC,F,Int.toNat_natCast]at A
   have ae:ae (aK ρ h) m=some (bN ρ z' n t).flatten:=by rw[cL,Z];simp only[Option.map_some,aB,X.a7,List.append_nil]
   have hY:(cx P ty).cells=P.cellsOf ty:=rfl
   have L':(cx P ty).agg=e5 P ty:=rfl
   obtain⟨_,e7,kp⟩:=H
   rw[hY,L']at A
   rw[hY]at e7
   simp only[X.I,oC,ae,HV,F,Int.toNat_natCast]
   have cu:=row_in (z:=z') (show q<(n.I ρ).toNat by omega)
   have hZ:=YG (ρ:=ρ) (z:=z') (m:=n) (t:=t)
   match hb:e5 P ty,A with
   | some true,A =>
    simp only[jY]at A ⊢
    split at A
    ·rename_i dH
     rw[if_pos ⟨dH.1,by rw[hZ];omega⟩,<-A]
     congr 2
     apply List.ext_getElem?
     intro i
     rw[List.getElem?_take,List.getElem?_take]
     split
     ·rename_i hi
      rw[List.getElem?_drop,List.getElem?_drop,Nat.add_assoc,LM M (by omega),List.getElem?_map,List.getElem?_range (by omega)];rfl
     ·rfl
    ·cases A
   | some false,A =>
    simp only[jY]at A ⊢
    rw[List.getElem?_map,List.getElem?_range kp]at A
    rw[LM M kp];exact A
  ·cases R
 ·cases R
def NQ (i:TI) (h:av) (B:J) (m:Nm) (z:Nat) (j:U) (o:Nat):T X :=
 match zh h m with
 | some (z',n,l)=>if(Nat.beq z' z&&(Nat.ble (o+i.cells) z&&Nat.blt o z))=true then
   g_ B j n fun B=>match l.gB B j with
    | some r=>eL (tM i.agg i.cells (CH r) o)
    | none => (.fail ["row"])
  else (.fail ["loadV"])
 | none=>loadT i h B m z j o
theorem ah9 {P:Program} {ρ:aa} {ty:TypeId} {h:av} {B:J} {m:Nm} {z:Nat} {j:U} {o:Nat} {v:X} (u:J.ok ρ B) (R:(NQ (cx P ty) h B m z j o).aq ρ=some v):oC P (aK ρ h) ty ((X.dz m z j o).I ρ)=some (v.I ρ):=by
 unfold NQ at R
 split at R
 ·rename_i z' n l hr
  split at R
  ·rename_i H
   simp only[Bool.and_eq_true,Nat.ble_eq,Nat.blt_eq]at H
   have hz:=Nat.eq_of_beq_eq_true H.1
   subst hz
   obtain⟨aQ,t,aJ,F,M,R⟩:=lR u R
   obtain⟨Z,hw⟩:=H_ (ρ:=ρ) hr
   split at R
   ·rename_i r ae
    have A:=y_ (ρ:=ρ) (fa R)
    rw[OU,RL.lr aJ ae,F]at A
    have hY:(cx P ty).cells=P.cellsOf ty:=rfl
    have L':(cx P ty).agg=e5 P ty:=rfl
    rw[hY,L']at A
    simp only[X.I,oC,Z,HV,F,Int.toNat_natCast]
    exact apB hw M (by have:=H.2.1;rw[hY]at this;exact this) H.2.2 _ A
   ·cases R
  ·cases R
 ·exact ah8 u R
def G0 (j:U) (r:List Sc):RL->RL
 | .eN i q a=>if i.beq j=true then .eN j r a else .eN j r (.eN i q a)
 | a => .eN j r a
theorem aiB (ρ:aa) (j:U) (r:List Sc) (a:RL) (k:Int):(G0 j r a).row ρ k=if k=j.I ρ then cd ρ r else a.row ρ k:=by
 unfold G0
 split
 ·split
  ·rename_i i q b hb
   have:=U.beq_eq _ _ hb
   subst this
   simp only[RL.row]
   split<;>rfl
  ·rfl
 ·rfl
theorem Qk {cs ys:List AV} {o:Nat} (ho:o<=cs.length) (i:Nat):(fY cs o ys)[i]? = if i<o then cs[i]? else if i<o+ys.length then ys[i-o]? else cs[i]? := by
 unfold fY
 have O:(cs.take o).length=o:=by rw[List.length_take];omega
 by_cases A:i<o
 ·rw[List.getElem?_append_left (by omega),List.getElem?_take,if_pos A,if_pos A]
 ·rw[List.getElem?_append_right (by omega),O,if_neg A]
  by_cases E:i<o+ys.length
  ·rw[List.getElem?_append_left (by omega),if_pos E]
  ·rw[List.getElem?_append_right (by omega),if_neg E,List.getElem?_drop,show o+ys.length+(i-o-ys.length)=i from by omega]
theorem arv {ρ:aa} {n:U} {l:RL} {z j:Nat} (hw:l.wd z=true) (M:(j:Int)<n.I ρ) {o:Nat} {ys:List AV} (ho:o+ys.length<=z) {m:RL} (FZ:m.wd z=true)
  (hm:∀k:Int,m.row ρ k=if k=j then fY (l.row ρ j) o ys else l.row ρ k):fY (aX ρ n l).flatten (j*z+o) ys=(aX ρ n m).flatten:=by
 have cu:=row_in (z:=z) (show j<(n.I ρ).toNat by omega)
 have km:=wG (ρ:=ρ) (n:=n) hw
 have hG:=wG (ρ:=ρ) (n:=n) FZ
 apply List.ext_getElem?
 intro i
 rw[Qk (by omega)]
 by_cases hi:i<(n.I ρ).toNat*z
 ·have hz:0<z:=by
   rcases Nat.eq_zero_or_pos z with h0 | h0
   ·subst h0;simp at hi
   ·exact h0
  obtain⟨q,k,u,rfl⟩:∃q k,k<z/\i=q*z+k:=⟨i / z,i % z,Nat.mod_lt _ hz,by rw[Nat.mul_comm];exact(Nat.div_add_mod i z).symm⟩
  have hq:(q:Int)<n.I ρ:=by
   have:q<(n.I ρ).toNat:=by
    rcases Nat.lt_or_ge q (n.I ρ).toNat with h | h
    ·exact h
    ·have:=Nat.mul_le_mul_right z h;omega
   omega
  rw[Fp FZ hq u,hm,Fp hw hq u]
  by_cases hqj:q=j
  ·subst hqj
   rw[if_pos rfl,Qk (by rw[RL.uo hw];omega)]
   by_cases A:k<o
   ·rw[if_pos (by omega),if_pos A]
   ·rw[if_neg (by omega),if_neg A]
    by_cases E:k<o+ys.length
    ·rw[if_pos (by omega),if_pos E,show q*z+k-(q*z+o)=k-o from by omega]
    ·rw[if_neg (by omega),if_neg E]
  ·rw[if_neg (show ¬((q:Nat):Int)=j by omega)]
   rcases Nat.lt_or_ge q j with h | h
   ·have:=row_in (z:=z) h
    rw[if_pos (by omega)]
   ·have:=row_in (z:=z) (show j<q by omega)
    rw[if_neg (by omega),if_neg (by omega)]
 ·rw[if_neg (by omega),if_neg (by omega),List.getElem?_eq_none (by omega),List.getElem?_eq_none (by omega)]
def storeT (i:TI) (h:av) (B:J) (m:Nm) (z:Nat) (j:U) (o:Nat) (ys:List X):T aN :=
 match bl h m with
 | some [.tk z' n t []]=>match ys with
  | [.cQ t' o' j']=>if(Nat.beq z' z&&(Nat.blt o z&&(Nat.beq i.cells 1&&(Nat.beq t' t&&(Nat.beq o' o&&j'.beq j)))))=true then
    g_ B j n fun _ => .ret [(m,some [.tk z n t []])]
   else (.fail ["storeT"])
  | _ => (.fail ["storeT"])
 | _ => (.fail ["rowsAt"])
theorem arF {P:Program} {ρ:aa} {ty:TypeId} {h:av} {B:J} {m:Nm} {z:Nat} {j:U} {o:Nat} {ys:List X} {d:aN} (u:J.ok ρ B) (R:(storeT (cx P ty) h B m z j o ys).aq ρ=some d) :
  ys.all X.one=true/\qf P (aK ρ h) ty ((X.dz m z j o).I ρ) (X.af ρ ys)=some (bn ρ d):=by
 unfold storeT at R
 split at R
 ·rename_i z' n t Z
  split at R
  ·rename_i t' o' j'
   split at R
   ·rename_i H
    simp only[Bool.and_eq_true,Nat.blt_eq]at H
    obtain⟨g1,g2,g3,g4,g5,g6⟩:=H
    have g1:=Nat.eq_of_beq_eq_true g1
    have g3:=Nat.eq_of_beq_eq_true g3
    have g4:=Nat.eq_of_beq_eq_true g4
    have g5:=Nat.eq_of_beq_eq_true g5
    have g6:=U.beq_eq _ _ g6
    subst g1 g4 g5 g6
    obtain⟨aQ,q,aJ,F,M,R⟩:=lR u R
    cases R
    have gG:[X.cQ t' o' j'].all X.one=true:=rfl
    refine⟨gG,?_⟩
    have ae:ae (aK ρ h) m=some (bN ρ z' n t').flatten:=by rw[cL,Z];simp only[Option.map_some,aB,X.a7,List.append_nil]
    have hY:P.cellsOf ty=1:=g3
    have cu:=row_in (z:=z') (show q<(n.I ρ).toNat by omega)
    have hZ:=YG (ρ:=ρ) (z:=z') (m:=n) (t:=t')
    simp only[X.I,qf,ae,wY,F,Int.toNat_natCast,hY]
    rw[if_pos ⟨by omega,rfl,by rw[hZ];omega,X.nV ρ _ gG⟩]
    simp only[bn,List.map_cons,List.map_nil,Option.map_some,aB,X.a7,List.append_nil]
    congr 4
    apply List.ext_getElem?
    intro i
    have O:(X.af ρ [X.cQ t' o' j']).length=1:=rfl
    rw[Qk (by rw[hZ];omega),O]
    split
    ·rfl
    ·split
     ·have:i=q*z'+o':=by omega
      subst this
      rw[Nat.sub_self,LM M g2]
      simp only[X.af,X.I,F,Int.toNat_natCast];rfl
     ·rfl
   ·cases R
  ·cases R
 ·cases R
def Qq (i:TI) (h:av) (B:J) (m:Nm) (z:Nat) (j:U) (o:Nat) (ys:List X):T aN :=
 match zh h m with
 | some (z',n,l)=>if(Nat.beq z' z&&(Nat.ble (o+i.cells) z&&(Nat.beq ys.length i.cells&&(Nat.blt 0 i.cells&&ys.all X.one))))=true then
   g_ B j n fun B=>match l.gB B j with
    | some r=>match o5 (t_ (CH r) o ys)with
     | some r' => if (G0 j r' l).wd z = true then .ret [(m, some [.rows z n (G0 j r' l)])] else (.fail ["wd"])
     | none => (.fail ["scs"])
    | none => (.fail ["row"])
  else (.fail ["storeV"])
 | none=>storeT i h B m z j o ys
theorem arG {P:Program} {ρ:aa} {ty:TypeId} {h:av} {B:J} {m:Nm} {z:Nat} {j:U} {o:Nat} {ys:List X} {d:aN} (u:J.ok ρ B) (R:(Qq (cx P ty) h B m z j o ys).aq ρ=some d) :
  ys.all X.one=true/\qf P (aK ρ h) ty ((X.dz m z j o).I ρ) (X.af ρ ys)=some (bn ρ d):=by
 unfold Qq at R
 split at R
 ·rename_i z' n l hr
  split at R
  ·rename_i H
   simp only[Bool.and_eq_true,Nat.ble_eq,Nat.blt_eq]at H
   obtain⟨hz,A,E,h3,h4⟩:=H
   have hz:=Nat.eq_of_beq_eq_true hz
   subst hz
   have E:=Nat.eq_of_beq_eq_true E
   have hY:(cx P ty).cells=P.cellsOf ty:=rfl
   rw[hY]at A E h3
   obtain⟨aQ,t,aJ,F,M,R⟩:=lR u R
   obtain⟨Z,hw⟩:=H_ (ρ:=ρ) hr
   split at R
   ·rename_i r ae
    split at R
    ·rename_i r' hs
     split at R
     ·rename_i FZ
      cases R
      refine⟨h4,?_⟩
      simp only[X.I,qf,Z,wY,X.gg,F,Int.toNat_natCast]
      have cu:=row_in (z:=z') (show t<(n.I ρ).toNat by omega)
      rw[if_pos ⟨h3,E,by rw[wG hw];omega,X.nV ρ _ h4⟩]
      have yb:cd ρ r'=fY (l.row ρ t) o (X.af ρ ys):=by
       rw[zA hs,IE,OU,RL.lr aJ ae,F]
      rw[arv hw M (by rw[X.gg];omega) FZ (fun k=>by rw[aiB,F,yb])]
      rfl
     ·cases R
    ·cases R
   ·cases R
  ·cases R
 ·exact arF u R
def M_ (i:TI) (h:av) (B:J) (m:Nm) (z:Nat) (off len e:U):T X :=
 match i.sl with
 | some (_, z') => if (Nat.beq z' z && iI h m) = true then want B (mkNot (mkLt off (.lit 0))) fun B => g_ B e len fun _ => .ret (.dz m z (mkAdd off e) 0) else (.fail ["idxV"])
 | none => (.fail ["idxV"])
theorem agY {P:Program} {ρ:aa} {ty:TypeId} {h:av} {B:J} {m:Nm} {z:Nat} {off len e:U} {own:Bool} {k:IntKind} {v:X} (u:J.ok ρ B) (R:(M_ (cx P ty) h B m z off len e).aq ρ=some v) :
  jL P (aK ρ h) ty ((X.slv m z off len own).I ρ) (.sc (.int k (e.I ρ)))=some (v.I ρ):=by
 unfold M_ at R
 split at R
 ·rename_i ee z' hs
  have cB:bE P ty=some (ee,z'):=hs
  split at R
  ·rename_i H
   simp only[Bool.and_eq_true]at H
   have hz:=Nat.eq_of_beq_eq_true H.1
   subst hz
   obtain⟨f0,bt,c1,R⟩:=c4 u R
   obtain⟨aQ,t,_,F,M,R⟩:=lR bt R
   cases R
   have c1:=eK c1
   simp only[U.I]at c1
   simp only[X.I,jL,Ga,cB,jS H.2,F,Int.toNat_natCast,fo]
   rw[if_pos ⟨trivial,trivial,by omega,by omega⟩]
   simp only[Nat.add_zero]
   congr 2
   rw[show(off.I ρ+(t:Int)).toNat=(off.I ρ).toNat+t from by omega,Nat.add_mul]
  ·cases R
 ·cases R
def Qi (i:TI) (h:av) (B:J) (m:Nm) (z:Nat) (off len:U) (own:Bool) (lo hi:U):T X :=
 match i.sl with
 | some (_,z')=>if(Nat.beq z' z&&iI h m)=true then
   want B (mkNot (mkLt off (.lit 0))) fun B=>want B (mkNot (mkLt lo (.lit 0))) fun B=>want B (mkNot (mkLt (mkSub hi lo) (.lit 0))) fun B=>want B (mkNot (mkLt len hi)) fun _ =>
    .ret (.slv m z (mkAdd off lo) (mkSub hi lo) own)
  else (.fail ["sliceV"])
 | none => (.fail ["sliceV"])
theorem arq {P:Program} {ρ:aa} {ty:TypeId} {h:av} {B:J} {m:Nm} {z:Nat} {off len:U} {own:Bool} {lo hi:Option X} {l r:U} {v:X} (u:J.ok ρ B) (O:nY lo (.lit 0)=some l) (hr:nY hi len=some r)
  (R:(Qi (cx P ty) h B m z off len own l r).aq ρ=some v):qd P (aK ρ h) ty ((X.slv m z off len own).I ρ) (lo.map (X.I ρ)) (hi.map (X.I ρ)) none=some (v.I ρ):=by
 unfold Qi at R
 split at R
 ·rename_i ee z' hs
  have cB:bE P ty=some (ee,z'):=hs
  split at R
  ·rename_i H
   simp only[Bool.and_eq_true]at H
   have hz:=Nat.eq_of_beq_eq_true H.1
   subst hz
   obtain⟨f0,bt,c1,R⟩:=c4 u R
   obtain⟨lY,dV,c2,R⟩:=c4 bt R
   obtain⟨zS,q0,c3,R⟩:=c4 dV R
   obtain⟨awg,hk4,dE,R⟩:=c4 q0 R
   cases R
   have c1:=eK c1
   have c2:=eK c2
   have c3:=eK c3
   have dE:=eK dE
   rw[nq]at c3
   simp only[U.I]at c1 c2 c3
   obtain⟨a,iZ⟩:∃a:Nat,l.I ρ=a:=⟨(l.I ρ).toNat,by omega⟩
   obtain⟨b,hX⟩:∃b:Nat,r.I ρ=b:=⟨(r.I ρ).toNat,by omega⟩
   have e1:=k6 (ρ:=ρ) O (el:=0) (by simp[U.I]) iZ
   have e2:=k6 (ρ:=ρ) hr (el:=(len.I ρ).toNat) (by omega) hX
   simp only[qd,e1,X.I,kX,e2,r6,cB,jS H.2]
   rw[if_pos ⟨trivial,trivial,by omega,by omega⟩]
   simp only[fo,nq,iZ,hX,Option.some.injEq,AV.sl.injEq,true_and,and_true]
   exact⟨by rw[show(off.I ρ+(a:Int)).toNat=(off.I ρ).toNat+a from by omega,Nat.add_mul],by omega⟩
  ·cases R
 ·cases R
def NI (i:TI) (h:av) (B:J) (m:Nm) (len:U):T X :=
 if (i.sl.isSome && iI h m) = true then want B (mkNot (mkLt len (.lit 0))) fun _ => .ret (.sc (.i .i64 len)) else (.fail ["lenV"])
theorem ah0 {P:Program} {ρ:aa} {ty:TypeId} {h:av} {B:J} {m:Nm} {z:Nat} {off len:U} {own:Bool} {v:X} (u:J.ok ρ B) (R:(NI (cx P ty) h B m len).aq ρ=some v):mA (je P (aK ρ h) ty ((X.slv m z off len own).I ρ))=some (v.I ρ):=by
 unfold NI at R
 split at R
 ·rename_i hs
  simp only[Bool.and_eq_true]at hs
  have cB:(bE P ty).isSome=true:=hs.1
  obtain⟨_,_,A,R⟩:=c4 u R
  cases R
  have A:=eK A
  simp only[U.I]at A
  simp only[X.I,je,cB,jS hs.2,and_self,if_true,mA,Sc.I]
  congr 3
  omega
 ·cases R
def E6 (h:av) (B:J) (z:Nat):X->T Rows
 | .slv m z' off len _=>match zh h m with
  | some (w,n,l)=>if(Nat.beq z' z&&Nat.beq w z)=true then
    want B (mkNot (mkLt off (.lit 0))) fun B=>want B (mkNot (mkLt len (.lit 0))) fun B=>want B (mkNot (mkLt n (mkAdd off len))) fun _ =>
     .ret (.r len (match off with | .lit 0=>l | off => .drop off l))
   else (.fail ["elemsT"])
  | none => (.fail ["rowsAt"])
 | x=>eL (E7 h z x)
theorem Ay {z:Nat}:∀(D:List (List AV)) (k:Nat),(∀(j:Nat) (e:List AV),D[j]? = some e->e.length=z)->k<=D.length->chunk z k D.flatten=D.take k
 | _,0,_,_=>by simp[chunk]
 | [],k+1,_,h=>by simp at h
 | e::D,k+1,h,u=>by
  have h0:=h 0 e rfl
  simp only[chunk,List.flatten_cons,List.take_succ_cons]
  rw[List.take_append_of_le_length (by omega),List.take_of_length_le (by omega),<-h0,List.drop_append_of_le_length (Nat.le_refl _),List.drop_length,List.nil_append,h0,
   Ay D k (fun j e' M=>h (j+1) e' (by simpa using M)) (by simpa using u)]
theorem LN {z:Nat}:∀(k:Nat) (D:List (List AV)),(∀(j:Nat) (e:List AV),D[j]? = some e->e.length=z)->D.flatten.drop (k*z)=(D.drop k).flatten
 | 0,D,_=>by simp
 | k+1,[],_=>by simp
 | k+1,e::D,h=>by
  have h0:=h 0 e rfl
  rw[List.flatten_cons,List.drop_succ_cons,Nat.succ_mul,Nat.add_comm,<-List.drop_drop,<-h0,List.drop_append_of_le_length (Nat.le_refl _),List.drop_length,List.nil_append,h0]
  exact LN k D (fun j e' M=>h (j+1) e' (by simpa using M))
theorem TH {ρ:aa} {h:av} {B:J} {z:Nat} {x:X} {r:Rows} (u:J.ok ρ B) (F:(E6 h B z x).aq ρ=some r):ez (aK ρ h) z (x.I ρ)=some (r.I ρ):=by
 unfold E6 at F
 split at F
 ·split at F
  ·rename_i m z' off len own av7 w n l hr
   split at F
   ·rename_i H
    simp only[Bool.and_eq_true]at H
    have BX:=Nat.eq_of_beq_eq_true H.1
    have VA:=Nat.eq_of_beq_eq_true H.2
    subst BX VA
    obtain⟨f0,bt,c1,F⟩:=c4 u F
    obtain⟨lY,dV,c2,F⟩:=c4 bt F
    obtain⟨zS,q0,c3,F⟩:=c4 dV F
    cases F
    have c1:=eK c1
    have c2:=eK c2
    have c3:=eK c3
    rw[fo]at c3
    simp only[U.I]at c1 c2
    obtain⟨a,ha⟩:∃a:Nat,off.I ρ=a:=⟨(off.I ρ).toNat,by omega⟩
    obtain⟨b,hb⟩:∃b:Nat,len.I ρ=b:=⟨(len.I ρ).toNat,by omega⟩
    obtain⟨c,hcn⟩:∃c:Nat,n.I ρ=c:=⟨(n.I ρ).toNat,by omega⟩
    obtain⟨Z,hw⟩:=H_ (ρ:=ρ) hr
    have a0:a+b<=c:=by omega
    have E:(a+b)*w<=c*w:=Nat.mul_le_mul_right w a0
    rw[Nat.add_mul]at E
    simp only[X.I,ez,Z,Option.bind_some,ha,hb,Int.toNat_natCast,wG hw,hcn]
    rw[if_pos ⟨trivial,E⟩,LN a _ (fun j e h=>C6 hw j e h),Ay _ _ (fun j e h=>C6 hw (a+j) e (by rw[List.getElem?_drop]at h;exact h)) (by rw[List.length_drop,qa];omega)]
    simp only[Rows.I,Option.some.injEq]
    apply List.ext_getElem?
    intro j
    rw[List.getElem?_take,List.getElem?_drop]
    by_cases M:j<b
    ·rw[if_pos M,mJ (by omega),mJ (by omega)]
     congr 1
     split
     ·simp only[U.I]at ha
      rw[show a+j=j from by omega]
     ·simp only[RL.row,ha]
      congr 1
      omega
    ·rw[if_neg M,List.getElem?_eq_none (by rw[qa];omega)]
   ·cases F
  ·cases F
 ·exact TJ (fa F)
def Rows.Z0:Rows->Option Rows
 | .c D=>(o4 D).map fun m => .r (.lit D.length) m
 | .r n l=>some (.r n l)
theorem Rows.asC {ρ:aa} {a b:Rows} (h:a.Z0=some b):b.I ρ=a.I ρ/\b.len=a.len:=by
 cases a with
 | c D =>
  obtain⟨m,hm,rfl⟩:=Option.map_eq_some_iff.1 h
  exact⟨IT hm,rfl⟩
 | r n l=>cases h;exact⟨rfl,rfl⟩
def Rows.cut (B:J) (len off:U) (l:RL):Rows :=
 match red B (mkEq len (.lit 0))with
 | .lit true => .c []
 | _ => .r len (.drop off l)
theorem YH {ρ:aa} {n len off:U} {l:RL} (h0:0<=off.I ρ) (A:0<=len.I ρ) (hn:n.I ρ=off.I ρ+len.I ρ):(aX ρ n l).drop (off.I ρ).toNat=aX ρ len (.drop off l):=by
 obtain⟨a,ha⟩:∃a:Nat,off.I ρ=a:=⟨(off.I ρ).toNat,by omega⟩
 obtain⟨b,hb⟩:∃b:Nat,len.I ρ=b:=⟨(len.I ρ).toNat,by omega⟩
 apply List.ext_getElem?
 intro j
 rw[List.getElem?_drop,ha,Int.toNat_natCast]
 by_cases M:j<b
 ·rw[mJ (by omega),mJ (by omega)]
  simp only[RL.row,ha]
  congr 2
  omega
 ·rw[List.getElem?_eq_none (by rw[qa];omega),List.getElem?_eq_none (by rw[qa];omega)]
theorem Rows.aej {ρ:aa} {B:J} (u:J.ok ρ B) {n len off:U} {l:RL} (h0:0<=off.I ρ) (A:0<=len.I ρ) (hn:n.I ρ=off.I ρ+len.I ρ):(Rows.cut B len off l).I ρ=(aX ρ n l).drop (off.I ρ).toNat/\(Rows.cut B len off l).len.I ρ=len.I ρ:=by
 unfold Rows.cut
 split
 ·rename_i F
  have:=dc u (mkEq len (.lit 0))
  rw[F,eX]at this
  have hz:len.I ρ=0:=by
   have:=of_decide_eq_true this.symm
   exact this
  constructor
  ·rw[YH h0 A hn];simp[Rows.I,X.a7,aX,hz]
  ·simp[Rows.len,U.I,hz]
 ·exact⟨(YH h0 A hn).symm,rfl⟩
def JU (n z b:Nat) (h:av) (B:J) (fs:Rows) (m:Nm) (w:Nat) (off len:U) (own:Bool):T (X×aN) :=
 match zh h m with
 | some (w',n',l)=>if(Nat.beq w z&&(Nat.beq w' z&&own))=true then
   (if(off.beq (.lit 0)&&n'.beq len)=true then
    wh B (.r len l) fs b fun _ => if Ia fs = true then eL (zi n z [(m, none)] (.r len l) fs) else (.fail ["one"])
   else want B (mkNot (mkLt off (.lit 0))) fun B=>want B (mkEq n' (mkAdd off len)) fun B=>want B (mkNot (mkLt len (.lit 0))) fun B =>
    match fs.Z0 with
    | some fs => wh B (Rows.cut B len off l) fs b fun _ => if Ia fs = true then eL (zi n z [(m, none)] (Rows.cut B len off l) fs) else (.fail ["one"])
    | none => (.fail ["toR"]))
  else (.fail ["apV"])
 | none => (.fail ["rowsAt"])
def JR (n z b:Nat) (B:J) (cs:List X) (fs:Rows) (m:Nm) (w off len:Nat) (own:Bool):T (X×aN) :=
 if(Nat.beq w z&&(own&&Nat.beq cs.length (off+len*z)))=true then
  wh B (.c (n3 z len (cs.drop off))) fs b fun _ => if Ia fs = true then eL (zi n z [(m, none)] (.c (n3 z len (cs.drop off))) fs) else (.fail ["one"])
 else (.fail ["apC"])
theorem ac2 {P:Program} {ρ:aa} {n z:Nat} {mu:Bool} {e:TypeId} {h:av} {B:J} (u:J.ok ρ B) {fs:Rows} {m:Nm} {w:Nat} {off len:U} {own:Bool} {r:X×aN} (R:(JU n z (c' P e) h B fs m w off len own).aq ρ=some r) :
  ju P n (aK ρ h) mu e z ((X.slv m w off len own).I ρ) (some (fs.I ρ))=some (r.1.I ρ,bn ρ r.2):=by
 unfold JU at R
 split at R
 ·rename_i w' n' l hr
  split at R
  ·rename_i H
   simp only[Bool.and_eq_true]at H
   obtain⟨g1,g2,g4⟩:=H
   have g1:=Nat.eq_of_beq_eq_true g1
   have g2:=Nat.eq_of_beq_eq_true g2
   subst g1 g2
   obtain⟨Z,hw⟩:=H_ (ρ:=ρ) hr
   split at R
   ·rename_i H
    simp only[Bool.and_eq_true]at H
    obtain⟨g3,g5⟩:=H
    have g3:=U.beq_eq _ _ g3
    have g5:=U.beq_eq _ _ g5
    subst g3 g5
    obtain⟨aQ,_,la,lB,c1,c2,R⟩:=zq u R
    split at R
    ·rename_i gG
     have hn:=H' la lB (fa R)
     have O:(aX ρ n' l).length=(n'.I ρ).toNat:=qa ρ n' l
     simp only[Rows.I]at c1 c2 hn
     have DS:(U.lit 0).I ρ=0:=rfl
     simp only[X.I,ju,Z,DS,Int.toNat_zero,Nat.zero_mul]
     rw[if_pos ⟨trivial,g4⟩]
     simp only[uJ]
     rw[if_pos ⟨by rw[wG hw,Nat.zero_add],PL gG,by rw[<-O];exact c1,by rw[<-O];exact c2⟩,List.drop_zero,hn,O]
     rfl
    ·cases R
   ·obtain⟨f0,bt,c1,R⟩:=c4 u R
    obtain⟨lY,dV,c2,R⟩:=c4 bt R
    obtain⟨zS,q0,c3,R⟩:=c4 dV R
    have c1:=eK c1
    rw[eX]at c2
    have c2:=of_decide_eq_true c2
    have c3:=eK c3
    rw[fo]at c2
    have DS:(U.lit 0).I ρ=0:=rfl
    rw[DS]at c1 c3
    have c1:0<=off.I ρ:=by omega
    have c3:0<=len.I ρ:=by omega
    split at R
    ·rename_i gs hgs
     have kw:=Rows.asC (ρ:=ρ) hgs
     have hcd:=Rows.aej (l:=l) q0 c1 c3 c2
     obtain⟨aQ,_,la,lB,d1,d2,R⟩:=zq q0 R
     split at R
     ·rename_i gG
      have hn:=H' la lB (fa R)
      have O:((aX ρ n' l).drop (off.I ρ).toNat).length=(len.I ρ).toNat:=by rw[List.length_drop,qa];omega
      have gG:=PL (ρ:=ρ) gG
      rw[hcd.1,kw.1,O]at d1 d2 hn
      rw[kw.1]at gG
      simp only[X.I,ju,Z]
      rw[if_pos ⟨trivial,g4⟩]
      simp only[uJ]
      have hZ:(aX ρ n' l).flatten.length=(off.I ρ).toNat*w'+(len.I ρ).toNat*w':=by rw[wG hw,<-Nat.add_mul];congr 1;omega
      rw[if_pos ⟨hZ,gG,d1,d2⟩,LN _ _ (fun j e h=>C6 hw j e h),hn]
      rfl
     ·cases R
    ·cases R
  ·cases R
 ·cases R
theorem acX {P:Program} {ρ:aa} {n z:Nat} {mu:Bool} {e:TypeId} {h:av} {B:J} (u:J.ok ρ B) {cs:List X} {fs:Rows} {m:Nm} {w off len:Nat} {own:Bool} {r:X×aN} (Z:pA h m=some cs) (R:(JR n z (c' P e) B cs fs m w off len own).aq ρ=some r) :
  ju P n (aK ρ h) mu e z (.sl m w off len own) (some (fs.I ρ))=some (r.1.I ρ,bn ρ r.2):=by
 unfold JR at R
 split at R
 ·rename_i H
  simp only[Bool.and_eq_true]at H
  obtain⟨g1,g3,g4⟩:=H
  have g1:=Nat.eq_of_beq_eq_true g1
  have g4:=Nat.eq_of_beq_eq_true g4
  subst g1
  obtain⟨aQ,_,la,lB,c1,c2,R⟩:=zq u R
  split at R
  ·rename_i gG
   have hn:=H' la lB (fa R)
   have md:(X.af ρ cs).length=off+len*w:=by rw[X.gg];exact g4
   have hf:(X.a7 ρ (n3 w len (cs.drop off))).flatten=(X.af ρ cs).drop off:=by rw[xu,X.qL];exact Az w len _ (by rw[List.length_drop,md];omega)
   have O:(X.a7 ρ (n3 w len (cs.drop off))).length=len:=by rw[xu,qE]
   simp only[Rows.I,hf,O]at c1 c2 hn
   simp only[ju,x4 Z]
   rw[if_pos ⟨trivial,g3⟩]
   simp only[uJ]
   rw[if_pos ⟨md,PL gG,c1,c2⟩,hn]
   rfl
  ·cases R
 ·cases R
def cI (n z b:Nat) (B:J) (m:Nm) (w:Nat) (off len:U) (own:Bool) (z':Nat) (k:U) (t:Nat) (D:List (List X)):Rows->T (X×aN)
 | .c fs=>if(Nat.beq w z&&(Nat.beq z' z&&(own&&(off.beq (.lit 0)&&(len.beq (mkAdd k (.lit D.length))&&(D.all (fun e=>Nat.beq e.length z)&&(fg fs).all X.one))))))=true then
   wh B (.r k (.one [])) (.c (D++fs)) b fun _ => .ret (.slv (n,0) z (.lit 0) (mkAdd k (.lit (D.length+fs.length:Nat))) true,[(m,none),((n,0),some [.tk z k t (D++fs)])])
  else (.fail ["apT"])
 | _ => (.fail ["apT"])
theorem ac1 {P:Program} {ρ:aa} {n z:Nat} {mu:Bool} {e:TypeId} {h:av} {B:J} (u:J.ok ρ B) {fs:Rows} {m:Nm} {w:Nat} {off len:U} {own:Bool} {z':Nat} {k:U} {t:Nat} {D:List (List X)} {r:X×aN} (Z:bl h m=some [.tk z' k t D]) (R:(cI n z (c' P e) B m w off len own z' k t D fs).aq ρ=some r) :
  ju P n (aK ρ h) mu e z ((X.slv m w off len own).I ρ) (some (fs.I ρ))=some (r.1.I ρ,bn ρ r.2):=by
 unfold cI at R
 split at R
 ·rename_i fs
  split at R
  ·rename_i H
   simp only[Bool.and_eq_true]at H
   obtain⟨g1,g2,g3,g4,g5,g6,g7⟩:=H
   have g1:=Nat.eq_of_beq_eq_true g1
   have g2:=Nat.eq_of_beq_eq_true g2
   have g4:=U.beq_eq _ _ g4
   have g5:=U.beq_eq _ _ g5
   subst g1 g2 g4 g5
   obtain⟨aQ,_,la,lB,c1,c2,R⟩:=zq u R
   cases R
   have la:0<=k.I ρ:=la
   have kz:(X.a7 ρ fs).length=fs.length:=by simp[X.eH]
   have hT:(bN ρ z' k t).length=(k.I ρ).toNat:=by unfold bN;rw[List.length_map,List.length_range]
   have hE:(X.a7 ρ D).length=D.length:=by simp[X.eH]
   have hR:(aX ρ k (.one [])).length=(k.I ρ).toNat:=qa ρ k _
   have UM:X.a7 ρ (D++fs)=X.a7 ρ D++X.a7 ρ fs:=by simp[X.eH]
   have hn:((mkAdd k (.lit D.length)).I ρ).toNat=(k.I ρ).toNat+D.length:=by rw[fo];simp only[U.I];omega
   have kA:((mkAdd k (.lit (D.length+fs.length:Nat))).I ρ).toNat=(k.I ρ).toNat+D.length+fs.length:=by rw[fo];simp only[U.I];omega
   simp only[Rows.I,UM,List.length_append,hR,hE,kz]at c1 c2
   have DS:(U.lit 0).I ρ=0:=rfl
   have ae:ae (aK ρ h) m=some (bN ρ z' k t++X.a7 ρ D).flatten:=by rw[cL,Z];rfl
   simp only[X.I,ju,ae,DS,Int.toNat_zero,Nat.zero_mul,Rows.I]
   rw[if_pos ⟨trivial,g3⟩]
   simp only[uJ,kz]
   have hZ:(bN ρ z' k t++X.a7 ρ D).flatten.length=((k.I ρ).toNat+D.length)*z':=by
    rw[gY _ (fun j e h=>QL g6 j e h),List.length_append,hT,hE]
   rw[if_pos ⟨by rw[hZ,hn,Nat.zero_add],by rw[<-qR];exact X.nV ρ _ g7,by rw[hn,Nat.add_assoc];exact c1,by rw[hn,Nat.add_assoc];exact c2⟩]
   simp only[hn,kA,bn,List.map_cons,List.map_nil,Option.map_some,Option.map_none,aB,UM,List.drop_zero,List.flatten_append,List.append_assoc]
  ·cases R
 ·cases R
def JS (n:Nat) (mu:Bool) (z b:Nat) (h:av) (B:J) (fs:Rows):X->T (X×aN)
 | .sl m w off len own=>match pA h m,fs with
  | some cs,.c fs=>eL (JT n z b m w off len own cs fs)
  | some cs,fs=>JR n z b B cs fs m w off len own
  | _,_=>(.fail [])
 | .slv m w off len own=>match bl h m with
  | some [.tk z' k t D]=>cI n z b B m w off len own z' k t D fs
  | _=>JU n z b h B fs m w off len own
 | s=>match Af z s with
  | some D=>JQ n mu z b B D fs
  | none=>(.fail [])
theorem acY {P:Program} {n:Nat} {h:Hp} {mu:Bool} {e:TypeId} {z:Nat} {s:AV} {fs:List (List AV)} (hs:∀m w off len own,s ≠ .sl m w off len own):ju P n h mu e z s (some fs)=nW n mu z (c' P e) fs (jv z s):=by
 cases s<;>first | rfl | exact absurd rfl (hs _ _ _ _ _)
theorem acZ {P:Program} {ρ:aa} {n z:Nat} {mu:Bool} {e:TypeId} {h:av} {B:J} (u:J.ok ρ B) {fs:Rows} {s:X} {r:X×aN} (R:(JS n mu z (c' P e) h B fs s).aq ρ=some r) :
  ju P n (aK ρ h) mu e z (s.I ρ) (some (fs.I ρ))=some (r.1.I ρ,bn ρ r.2):=by
 unfold JS at R
 split at R
 ·split at R
  ·exact ac0 (by assumption) (fa R)
  ·exact acX u (by assumption) R
  ·cases R
 ·split at R
  ·exact ac1 u (by assumption) R
  ·exact ac2 u R
 ·rename_i hs jG
  rw[acY (fun m w off len own W=>by
   cases s with
   | sl _ _ _ _ _=>exact hs _ _ _ _ _ rfl
   | slv _ _ _ _ _=>exact jG _ _ _ _ _ rfl
   | gd c x=>simp[Af,T.aq]at R
   | cQ _ _ _=>simp[Af,T.aq]at R
   | _=>simp only[X.I,reduceCtorEq]at W)]
  split at R
  ·rename_i D Bx
   rw[adz Bx]
   exact acW u R
  ·cases R
def JV (n:Nat) (mu:Bool) (i ahk:TI) (ti:Nat->Option TI) (h:av) (B:J) (s x:X):T (X×aN) :=
 match i.sl,ahk.sl with
 | some (e,z),some (e',z')=>match ti e with
  | some ie=>if(Nat.beq e e'&&(Nat.beq z z'&&Jt ie z))=true then
    (E6 h B z x).bind B fun B fs=>JS n mu z ie.k9 h B fs s
   else(.fail [])
  | none=>(.fail [])
 | _,_=>(.fail [])
theorem ac4 {P:Program} {ρ:aa} {n:Nat} {mu:Bool} {ty xt:TypeId} {ti:Nat->Option TI} (bb:eO.ok P ti) {h:av} {B:J} (u:J.ok ρ B) {s x:X} {r:X×aN}
  (R:(JV n mu (cx P ty) (cx P xt) ti h B s x).aq ρ=some r):nX P n (aK ρ h) mu ty xt (s.I ρ) (x.I ρ)=some (r.1.I ρ,bn ρ r.2):=by
 unfold JV at R
 split at R
 ·rename_i e z e' z' A E
  have pi:bE P ty=some (e,z):=A
  have xS:bE P xt=some (e',z'):=E
  split at R
  ·rename_i ie gD
   have gD:=bb _ _ gD
   subst gD
   split at R
   ·rename_i H
    simp only[Bool.and_eq_true]at H
    have F:=Nat.eq_of_beq_eq_true H.1
    have hz:=Nat.eq_of_beq_eq_true H.2.1
    subst F hz
    simp only[nX,pi,xS,abm H.2.2]
    rw[if_pos ⟨trivial,trivial⟩]
    obtain⟨aQ,fs,aJ,hf,R⟩:=T.cZ _ u R
    rw[TH u hf]
    exact acZ aJ R
   ·cases R
  ·cases R
 ·cases R
def KD (i:TI) (h:av) (s x:X):Option (X×aN) :=
 match i.sl with
 | some (_,z)=>match s,E7 h z x with
  | .sl m w off len _,some (.c fs)=>match pA h m with
   | some cs=>if(Nat.beq w z&&(Nat.ble fs.length len&&(Nat.ble (off+fs.length*z) cs.length&&((fg fs).all X.one && !b0 (t_ cs off (fg fs))))))=true then
     some (.sc (.i .i64 (.lit fs.length)),[(m,some (t_ cs off (fg fs)))])else none
   | none=>none
  | _,_=>none
 | none=>none
theorem aee {P:Program} {ρ:aa} {ty:TypeId} {h:av} {s x:X} {r:X×aN} (R:KD (cx P ty) h s x=some r):xw P (aK ρ h) ty (s.I ρ) (x.I ρ)=some (r.1.I ρ,bn ρ r.2):=by
 unfold KD at R
 split at R
 ·rename_i e z hs
  have cB:bE P ty=some (e,z):=hs
  split at R
  ·rename_i m w off len own fs F
   split at R
   ·rename_i cs Z
    split at R
    ·rename_i H
     simp only[Bool.and_eq_true,Nat.ble_eq]at H
     obtain⟨g1,g2,g3,g4,g5⟩:=H
     have g1:=Nat.eq_of_beq_eq_true g1
     subst g1
     cases R
     have O:(X.a7 ρ fs).length=fs.length:=by simp[X.eH]
     have qY:=TJ (ρ:=ρ) F
     simp only[xw,cB,qY,Rows.I,X.I,x4 Z,O,X.gg,<-qR]
     rw[if_pos ⟨trivial,g2,g3,X.nV ρ _ g4⟩]
     simp only[Sc.I,U.I,bn,List.map_cons,List.map_nil,Option.map_some,cR (ρ:=ρ) (show b0 (t_ cs off (fg fs))=false by simpa using g5),IE]
    ·cases R
   ·cases R
  ·cases R
 ·cases R
end Go.Proofs.Xw
namespace Go.Proofs.Xw
open Go Go.Proofs.Aw
def cq (g:Nat->X):Operand->X
 | .tmp i=>g i
 | .const v=>mG v
 | .global a => .k (.pointer (some ⟨a,0,none⟩))
 | .func f => .fn (.func f) [] []
def u6 (g:Nat->X):List Operand->List X
 | []=>[]
 | x::xs=>cq g x::u6 g xs
def AT (g:Nat->X):List (Nat×Operand)->List (Nat×X)
 | []=>[]
 | (i,x)::xs=>(i,cq g x)::AT g xs
section
variable {ρ:aa} {g:Nat->X} {t:Tp} (Z:∀i,(g i).I ρ=bU t i)
include Z
theorem eU (x:Operand):(cq g x).I ρ=ev t x:=by
 cases x with
 | tmp i=>exact Z i
 | const v=>exact Xi ρ v
 | global a=>rfl
 | func f=>simp only[cq,X.I,X.af,ev]
theorem Fc:∀l:List Operand,X.af ρ (u6 g l)=oa t l
 | []=>rfl
 | x::xs=>by simp only[u6,X.af,oa,eU Z x,Fc xs]
theorem Ll:∀l:List (Nat×Operand),mY ρ (AT g l)=u7 t l
 | []=>rfl
 | (i,x)::xs=>by
  have:=Ll xs
  simp only[mY]at this
  simp only[AT,mY,List.map_cons,u7,eU Z x,this]
end
inductive XR where
 | ok (r:X) (d:aN)
 | call (f:FuncId) (args:List X)
def strip (B:J):X->X
 | .gd c x=>match red B c with
  | .lit true=>x
  | .lit false => .k undef
  | _ => .gd c x
 | x=>x
theorem Qu {ρ:aa} {B:J} (u:J.ok ρ B) (x:X):(strip B x).I ρ=x.I ρ:=by
 unfold strip
 split
 ·rename_i c x
  have hr:=dc u c
  split
  ·rename_i hd;rw[hd]at hr;simp only[X.I,<-hr,BE.I,if_true]
  ·rename_i hd;rw[hd]at hr;simp only[X.I,<-hr,BE.I];rfl
  ·rfl
 ·rfl
def Pg (B:J):X->X->X->Option X
 | .sc (.b e),a,b=>match red B e with
  | .lit true=>some a
  | .lit false=>some b
  | d=>X.et d (strip (assume d true B) a) (strip (assume d false B) b)
 | _,_,_=>none
theorem aov {ρ:aa} {B:J} (u:J.ok ρ B) {c a b v:X} (h:Pg B c a b=some v):yX (c.I ρ) (a.I ρ) (b.I ρ)=some (v.I ρ):=by
 unfold Pg at h
 split at h
 ·rename_i e
  have hr:=dc u e
  split at h
  ·rename_i hd;cases h;rw[hd]at hr;simp only[X.I,Sc.I,<-hr,BE.I,yX]
  ·rename_i hd;cases h;rw[hd]at hr;simp only[X.I,Sc.I,<-hr,BE.I,yX]
  ·rw[X.Cr _ _ _ h]
   simp only[X.I,Sc.I]
   by_cases hd:BE.I ρ (red B e)=true
   ·rw[if_pos hd,Qu (gu _ true B hd u),<-hr,hd];rfl
   ·have xY:BE.I ρ (red B e)=false:=by simpa using hd
    rw[if_neg hd,Qu (gu _ false B xY u),<-hr,xY];rfl
 ·cases h
def OD (h:av):X->Option X
 | .ptr n aG d=>if iI h n=true then some (.ptr n aG d)else none
 | .ip cs aG d=>some (.ip cs aG d)
 | .fn (.func f) xs ys=>some (.fn (.func f) xs ys)
 | _=>none
theorem ajd {ρ:aa} {h:av} {x v:X} (R:OD h x=some v):v9 (aK ρ h) (x.I ρ)=some (v.I ρ):=by
 unfold OD at R
 split at R
 ·split at R
  ·rename_i ho;cases R;simp only[X.I,v9,jS ho,if_true]
  ·cases R
 ·cases R;simp only[X.I,v9]
 ·cases R;simp only[X.I,v9]
 ·cases R
def rF:BinOp->Bool->Option X
 | .eql,b=>some (.sc (.b (.lit b)))
 | .neq,b=>some (.sc (.b (.lit (!b))))
 | _,_=>none
theorem v8 {ρ:aa} {op:BinOp} {b:Bool} {v:X} (h:rF op b=some v):mE op b=some (v.I ρ):=by
 unfold rF at h
 split at h<;>first | cases h | skip
 ·rfl
 ·rfl
def OB (t:TI) (h:av) (op:BinOp) (x:X):Option X :=
 match t.sl with
 | some _=>match x with
  | .sl m _ _ _ _=>if iI h m=true then rF op false else none
  | .slv m _ _ _ _=>if iI h m=true then rF op false else none
  | .ro _ (_::_) _=>rF op false
  | .k (.slice none 0 0)=>rF op true
  | _=>none
 | none=>none
theorem ajb {P:Program} {ρ:aa} {ty:TypeId} {h:av} {op:BinOp} {x v:X} (R:OB (cx P ty) h op x=some v):gX P (aK ρ h) op ty (x.I ρ) (.sc (.slice none 0 0))=some (v.I ρ):=by
 unfold OB at R
 split at R
 ·rename_i p hs
  have cB:bE P ty=some p:=hs
  have e:∀y,gw P op ty y (.sc (.slice none 0 0))=none:=fun y=>by
   unfold gw
   split<;>simp_all
  unfold gX
  rw[e]
  simp only[kO,cB]
  split at R
  ·split at R
   ·rename_i hm
    simp only[X.I]
    rw[if_pos (jS hm)]
    exact v8 R
   ·cases R
  ·split at R
   ·rename_i hm
    simp only[X.I]
    rw[if_pos (jS hm)]
    exact v8 R
   ·cases R
  ·simp only[X.I,X.a7]
   exact v8 R
  ·simp only[X.I]
   exact v8 R
  ·cases R
 ·cases R
def OA (t:TI) (h:av) (B:J) (op:BinOp):X->T X
 | .rl _ n _ _=>match t.sl with
  | some _=>want B (.lt (.lit 0) n) fun _=>eL (rF op false)
  | none => .fail []
 | x=>eL (OB t h op x)
theorem aqx {ρ:aa} {n:U} {l:RL} (h:0<n.I ρ):∃a b,aX ρ n l=a::b:=by
 unfold aX
 obtain⟨m,hm⟩:∃m,(n.I ρ).toNat=m+1:=⟨(n.I ρ).toNat-1,by omega⟩
 rw[hm,List.range_succ_eq_map]
 exact⟨_,_,rfl⟩
theorem aja {P:Program} {ρ:aa} {ty:TypeId} {h:av} {B:J} {op:BinOp} {x v:X} (u:J.ok ρ B) (R:(OA (cx P ty) h B op x).aq ρ=some v):gX P (aK ρ h) op ty (x.I ρ) (.sc (.slice none 0 0))=some (v.I ρ):=by
 unfold OA at R
 split at R
 ·split at R
  ·rename_i p hs
   have cB:bE P ty=some p:=hs
   have e:∀y,gw P op ty y (.sc (.slice none 0 0))=none:=fun y=>by
    unfold gw
    split<;>simp_all
   obtain⟨_,_,H,R⟩:=c4 u R
   simp only[BE.I,U.I]at H
   obtain⟨a,b,xU⟩:=aqx (of_decide_eq_true H)
   unfold gX
   rw[e]
   simp only[kO,cB,X.I]
   rw[xU]
   exact v8 (fa R)
  ·cases R
 ·exact ajb (fa R)
def Ps (t:TI) (h:av) (op:BinOp) (x:X):Option X :=
 match t.pt with
 | true=>match x with
  | .ptr m _ _=>if iI h m=true then rF op false else none
  | .k (.pointer none)=>rF op true
  | _=>none
 | false=>none
theorem aoZ {P:Program} {ρ:aa} {ty:TypeId} {h:av} {op:BinOp} {x v:X} (R:Ps (cx P ty) h op x=some v):gX P (aK ρ h) op ty (x.I ρ) (.sc (.pointer none))=some (v.I ρ):=by
 unfold Ps at R
 split at R
 ·rename_i hs
  have cB:CU P ty=true:=hs
  have e:∀y,gw P op ty y (.sc (.pointer none))=none:=fun y=>by
   unfold gw
   split<;>simp_all
  unfold gX
  rw[e]
  simp only[kO,cB]
  split at R
  ·split at R
   ·rename_i hm
    simp only[X.I]
    rw[if_pos (jS hm)]
    exact v8 R
   ·cases R
  ·simp only[X.I]
   exact v8 R
  ·cases R
 ·cases R
def N0 (n:Nat) (i:TI) (ti:Nat->Option TI) (B:J):X->X->T (X×aN)
 | .sc (.i _ a),.sc (.i _ b)=>match i.sl with
  | some (e,z)=>match ti e with
   | some ie=>match ie.zero with
    | some zs=>if(Nat.beq zs.length z&&a.beq b)=true then
      want B (mkNot (mkLt a (.lit 0))) fun B=>want B (mkNot (mkLt (.lit (An ie.k9)) a)) fun _ =>
       match a with
       | .lit m => if b0 (fg (List.replicate m.toNat (zs.map mG))) = true then (.fail ["make"]) else .ret (.sl (n, 0) z 0 m.toNat true, [((n, 0), some (fg (List.replicate m.toNat (zs.map mG))))])
       | a=>match o5 (zs.map mG)with
        | some r => if Nat.beq r.length z = true then .ret (.slv (n, 0) z (.lit 0) a true, [((n, 0), some [.rows z a (.one r)])]) else (.fail ["make"])
        | none => (.fail ["make"])
     else (.fail ["make"])
    | none => (.fail ["make"])
   | none => (.fail ["make"])
  | none => (.fail ["make"])
 | _, _ => (.fail ["make"])
theorem abk (zc:List AV):∀m:Nat,mN m zc=(List.replicate m zc).flatten
 | 0=>rfl
 | m+1=>by simp only[mN,List.replicate_succ,List.flatten_cons,abk zc m]
theorem aqy {ρ:aa} {a:U} {r:List Sc}:aX ρ a (.one r)=List.replicate (a.I ρ).toNat (cd ρ r):=by
 apply List.ext_getElem?
 intro j
 by_cases M:j<(a.I ρ).toNat
 ·rw[mJ (by omega),List.getElem?_replicate,if_pos M];rfl
 ·rw[List.getElem?_eq_none (by rw[qa];omega),List.getElem?_replicate,if_neg M]
theorem aio {P:Program} {ρ:aa} {n:Nat} {ty:TypeId} {ti:Nat->Option TI} (bb:eO.ok P ti) {B:J} (u:J.ok ρ B) {x y:X} {r:X×aN} (h:(N0 n (cx P ty) ti B x y).aq ρ=some r) :
  tp P n ty (x.I ρ) (y.I ρ)=some (r.1.I ρ,bn ρ r.2):=by
 unfold N0 at h
 split at h
 ·rename_i k a k' b
  split at h
  ·rename_i e z hs
   have cB:bE P ty=some (e,z):=hs
   split at h
   ·rename_i ie gD
    have gD:=bb _ _ gD
    subst gD
    split at h
    ·rename_i zs yh
     have hz:fE P e=some (zs.map AV.sc):=by rw[Jr];have:zeroV P e=some zs:=yh;rw[this];rfl
     split at h
     ·rename_i H
      simp only[Bool.and_eq_true]at H
      have O:=Nat.eq_of_beq_eq_true H.1
      have xU:=U.beq_eq _ _ H.2
      subst xU
      obtain⟨f0,bt,c1,h⟩:=c4 u h
      obtain⟨lY,dV,c2,h⟩:=c4 bt h
      have c1:=eK c1
      have c2:=eK c2
      simp only[U.I]at c1 c2
      have ut:(cx P e).k9=c' P e:=rfl
      rw[ut]at c2
      have gi:=EI (b:=c' P e) (n:=(a.I ρ).toNat) (by omega)
      have key:tp P n ty ((X.sc (.i k a)).I ρ) ((X.sc (.i k' a)).I ρ)=some (.sl (n,0) z 0 (a.I ρ).toNat true,[((n,0),some (List.replicate (a.I ρ).toNat (zs.map AV.sc)).flatten)]):=by
       simp only[X.I,Sc.I,tp,cB,hz]
       rw[if_pos ⟨by rw[List.length_map];exact O,by omega,trivial,gi.1,by omega⟩,abk]
      rw[key]
      cases a with
      | lit m =>
       simp only at h
       split at h
       ·cases h
       ·rename_i hr
        cases h
        have F:X.a7 ρ (List.replicate m.toNat (zs.map mG))=List.replicate m.toNat (zs.map AV.sc):=by
         rw[X.eH,List.map_replicate,Ho]
        simp only[X.I,U.I,bn,List.map_cons,List.map_nil,Option.map_some,cR (ρ:=ρ) (show b0 (fg (List.replicate m.toNat (zs.map mG)))=false by simpa using hr),qR,F]
      | _ =>
       simp only at h
       split at h
       ·rename_i q hq
        split at h
        ·cases h
         have h2:=zA (ρ:=ρ) hq
         rw[Ho]at h2
         simp only[X.I,U.I,Int.toNat_zero,Nat.zero_mul,bn,List.map_cons,List.map_nil,Option.map_some,aB,aqy,h2]
        ·cases h
       ·cases h
     ·cases h
    ·cases h
   ·cases h
  ·cases h
 ·cases h
def nu (o:Option X):T XR:=eL (o.map fun v => .ok v [])
def p0 (t:T X):T XR:=t.map fun v => .ok v []
def gO (ti:Nat->Option TI) (t:Nat) (k:TI->T XR):T XR:=match ti t with
 | some i=>k i
 | none=>(.fail [])
def NR (i:TI) (h:av) (B:J):X->T X
 | .dz m z j o=>NQ i h B m z j o
 | x=>eL (GD i h x)
theorem aia {P:Program} {ρ:aa} {ty:TypeId} {h:av} {B:J} {x v:X} (u:J.ok ρ B) (R:(NR (cx P ty) h B x).aq ρ=some v):oC P (aK ρ h) ty (x.I ρ)=some (v.I ρ):=by
 unfold NR at R
 split at R
 ·exact ah9 u R
 ·exact Wc (fa R)
def Qr (i:TI) (h:av) (B:J) (x:X) (ys:List X):T aN :=
 match x with
 | .dz m z j o=>Qq i h B m z j o ys
 | x=>eL (Qs i h x ys)
theorem arH {P:Program} {ρ:aa} {ty:TypeId} {h:av} {B:J} {x:X} {ys:List X} {d:aN} (u:J.ok ρ B) (R:(Qr (cx P ty) h B x ys).aq ρ=some d):ys.all X.one=true/\qf P (aK ρ h) ty (x.I ρ) (X.af ρ ys)=some (bn ρ d):=by
 unfold Qr at R
 split at R
 ·exact arG u R
 ·exact arI (fa R)
def M8 (i:TI) (h:av) (B:J) (x y:X):T X :=
 match x,y with
 | .slv m z off len _,.sc (.i _ e)=>M_ i h B m z off len e
 | .dz m z j o,.sc (.i _ (.lit e))=>match i.arr with
  | some (len, z') => if (iI h m && (decide (0 <= e) && decide (e < len))) = true then .ret (.dz m z j (o + e.toNat * z')) else (.fail ["idxAddrW"])
  | none => (.fail ["idxAddrW"])
 | x,y=>M9 i h B x y
theorem agW {P:Program} {ρ:aa} {ty:TypeId} {h:av} {B:J} {x y v:X} (u:J.ok ρ B) (R:(M8 (cx P ty) h B x y).aq ρ=some v):jL P (aK ρ h) ty (x.I ρ) (y.I ρ)=some (v.I ρ):=by
 unfold M8 at R
 split at R
 ·exact agY u R
 ·split at R
  ·rename_i m z j o k e len z' ha
   have dG:ey P ty=some (len,z'):=ha
   split at R
   ·rename_i H
    simp only[Bool.and_eq_true,decide_eq_true_eq]at H
    cases R
    simp only[X.I,Sc.I,U.I,jL,dG,F',jS H.1]
    rw[if_pos ⟨trivial,H.2.1,H.2.2⟩]
    congr 2
    omega
   ·cases R
  ·cases R
 ·exact agX u R
def IU (i:TI):X->U
 | .slv _ _ _ len _=>len
 | x=>qn i x
def Qg (i:TI) (h:av) (B:J) (x:X) (lo hi:U) (hn:Bool):T X :=
 match x with
 | .slv m z off len own=>Qi i h B m z off len own lo hi
 | x=>Qh i h B x lo hi hn
theorem arl {P:Program} {ρ:aa} {ty:TypeId} {h:av} {B:J} {x v:X} {lo hi:Option X} {l r:U} (u:J.ok ρ B) (O:nY lo (.lit 0)=some l) (hr:nY hi (IU (cx P ty) x)=some r)
  (R:(Qg (cx P ty) h B x l r hi.isNone).aq ρ=some v):∃w,qd P (aK ρ h) ty (x.I ρ) (lo.map (X.I ρ)) (hi.map (X.I ρ)) none=some w/\b' (v.I ρ) w:=by
 unfold Qg at R
 split at R
 ·exact⟨_,arq u O hr R,b'.refl _⟩
 ·rename_i hx
  refine arn u O ?_ R
  have:IU (cx P ty) x=qn (cx P ty) x:=by
   unfold IU
   split
   ·exact absurd rfl (hx _ _ _ _ _)
   ·rfl
  rw[<-this];exact hr
def NJ (i:TI) (h:av) (B:J):X->T X
 | .slv m _ _ len _=>NI i h B m len
 | x=>NL i h B x
theorem ah1 {P:Program} {ρ:aa} {ty:TypeId} {h:av} {B:J} {x v:X} (u:J.ok ρ B) (R:(NJ (cx P ty) h B x).aq ρ=some v):mA (je P (aK ρ h) ty (x.I ρ))=some (v.I ρ):=by
 unfold NJ at R
 split at R
 ·exact ah0 u R
 ·exact ah2 u R
def Qo (ti:Nat->Option TI) (n:Nat) (mu:Bool) (g:Nat->X) (h:av) (B:J):Op->T XR
 | .move x => .ret (.ok (cq g x) [])
 | .assign x => .ret (.ok (cq g x) [])
 | .pick c a b=>nu (Pg B (cq g c) (cq g a) (cq g b))
 | .alloc e=>gO ti e fun i=>eL (i.zero.bind fun zs=>if b0 (zs.map mG)=true then none else some (.ok (.ptr (n,0) [] 0) [((n,0),some (zs.map mG))]))
 | .box _ x=>if(cq g x).cells.all X.one=true then .ret (.ok (.ptr (n,0) [] 0) [((n,0),some (cq g x).cells)])else(.fail [])
 | .load ty x=>gO ti ty fun i=>p0 (NR i h B (cq g x))
 | .store ty x y=>gO ti ty fun i=>(Qr i h B (cq g x) (cq g y).cells).map fun d => .ok (.k undef) d
 | .nilCheck x=>nu (OD h (cq g x))
 | .indexAddr ty x i=>gO ti ty fun t=>p0 (M8 t h B (cq g x) (cq g i))
 | .fieldAddr ty x f=>gO ti ty fun t=>nu (LG t h f (cq g x))
 | .field ty x f=>gO ti ty fun t=>nu (LH t f (cq g x))
 | .index ty x i=>gO ti ty fun t=>p0 (Nb t B (cq g x) (cq g i))
 | .slice ty x lo hi none=>gO ti ty fun t=>match nY (lo.map (cq g)) (.lit 0),nY (hi.map (cq g)) (IU t (cq g x))with
  | some l,some r=>p0 (Qg t h B (cq g x) l r hi.isNone)
  | _,_=>(.fail [])
 | .slice ty x lo (some hi) (some mx)=>gO ti ty fun t=>nu (Qf t h (cq g x) (lo.map (cq g)) (cq g hi) (cq g mx))
 | .binOp op ty x y _=>gO ti ty fun t=>match cq g y with
  | .k (.slice none 0 0)=>p0 (OA t h B op (cq g x))
  | .k (.pointer none)=>nu (Ps t h op (cq g x))
  | _=>p0 (J8 t B op (cq g x) (cq g y))
 | .unOp op _ x=>p0 (QY B op (cq g x))
 | .convert src dst x=>gO ti src fun s=>gO ti dst fun t=>p0 (KC B s t (cq g x))
 | .extract x i=>match cq g x with
  | .tup vs=>nu vs[i]?
  | _=>(.fail [])
 | .makeFunc f xs ys => .ret (.ok (.fn f (u6 g xs.toList) (u6 g ys.toList)) [])
 | .build ty ps=>gO ti ty fun t=>nu (Kb t (AT g ps.toList))
 | .buildSlice ty len ps=>gO ti ty fun t=>eL ((Ka n mu t ti len (AT g ps.toList)).map fun p => .ok p.1 p.2)
 | .makeSlice ty l c=>gO ti ty fun t=>(N0 n t ti B (cq g l) (cq g c)).map fun p => .ok p.1 p.2
 | .call ⟨.builtin b,args,gQ⟩=>match b,gQ.toList,u6 g args.toList with
  | .len,ty::_,x::_=>gO ti ty fun t=>p0 (NJ t h B x)
  | .max,_,x::xs=>nu (Cm x xs)
  | .min,_,x::xs=>nu (Co x xs)
  | .append,[ty,xt],[s,x]=>gO ti ty fun t=>gO ti xt fun t'=>(JV n mu t t' ti h B s x).map fun p => .ok p.1 p.2
  | .copy,[ty,_],[s,x]=>gO ti ty fun t=>eL ((KD t h s x).map fun p => .ok p.1 p.2)
  | b,_,xs=>nu (AE b xs)
 | .call ⟨.value x,args,_⟩=>match cq g x with
  | .fn (.func f) xs ys => .ret (.call f (xs++(u6 g args.toList++ys)))
  | _=>(.fail [])
 | _=>(.fail [])
theorem en {P:Program} {n:Nat} {mu:Bool} {op:Op} {t:Tp} {h:Hp} {r:AV} {d:Dl} (F:cH P n mu t h op = .ok r d):Aw.Yields P n op t h r d:=by
 obtain⟨r',gx,hy,A,E⟩:=Qn (ZA (K:=fun a b=>a=r/\b=d) F ⟨rfl,rfl⟩)
 subst A E;exact hy
theorem acJ {P:Program} {n:Nat} {op:Op} {t:Tp} {h:Hp} {r r':AV} {d:Dl} (hy:Aw.Yields P n op t h r d) (O:b' r' r):Aw.Yields P n op t h r' d:=by
 intro C a o next Q ho W ht hn u
 refine hy C a o next Q ho W ht hn fun Y C' hp=>u Y C' ?_
 exact⟨hp.le,hp.kn,hp.heap,O _ _ hp.val,hp.same,hp.mt,hp.os,hp.tape,hp.output,hp.lM,hp.names⟩
theorem acK {P:Program} {n:Nat} {mu:Bool} {op:Op} {t:Tp} {h:Hp} {r r':AV} {d:Dl} (F:cH P n mu t h op = .ok r d) (O:b' r' r):Aw.Yields P n op t h r' d:=acJ (en F) O
def XR.Zu (ρ:aa) (P:Program) (n:Nat) (mu:Bool) (op:Op) (t:Tp) (h:Hp):XR->Prop
 | .ok r d=>Aw.Yields P n op t h (r.I ρ) (bn ρ d)
 | .call f args=>cH P n mu t h op = .call f (X.af ρ args)
theorem ik {P:Program} {ρ:aa} {ti:Nat->Option TI} (bb:eO.ok P ti) {t:Nat} {k:TI->T XR} {a:XR} (h:(gO ti t k).aq ρ=some a):(k (cx P t)).aq ρ=some a:=by
 unfold gO at h
 split at h
 ·rename_i i hi;rw[bb _ _ hi]at h;exact h
 ·cases h
theorem oX {ρ:aa} {o:Option X} {a:XR} (h:(nu o).aq ρ=some a):∃v,o=some v/\a = .ok v []:=by
 obtain⟨v,A,E⟩:=Option.map_eq_some_iff.1 (fa h)
 exact⟨v,A,E.symm⟩
theorem r5 {ρ:aa} {o:T X} {a:XR} (h:(p0 o).aq ρ=some a):∃v,o.aq ρ=some v/\a = .ok v []:=T.jk o h
theorem adQ {P:Program} {n:Nat} {mu:Bool} {h:Hp} {b:Builtin} {gQ:List TypeId} {l:List X} {xs:List AV} {v:X} {r:AV} (R:AE b l=some v) (hb:uV b xs=some r):mX P n mu h b gQ xs = .ok r []:=by
 cases b<;>first
  | (simp only[AE,reduceCtorEq]at R;done)
  | (simp only[mX,hb,da])
theorem arD {P:Program} {ρ:aa} {ti:Nat->Option TI} (bb:eO.ok P ti) {n:Nat} {mu:Bool} {g:Nat->X} {t:Tp} (Z:∀i,(g i).I ρ=bU t i) {h:av} {B:J} (u:J.ok ρ B) {op:Op} {a:XR}
  (hs:(Qo ti n mu g h B op).aq ρ=some a):a.Zu ρ P n mu op t (aK ρ h):=by
 unfold Qo at hs
 split at hs
 ·cases hs
  exact en (mu:=mu) (by simp only[cH,eU Z];rfl)
 ·cases hs
  exact en (mu:=mu) (by simp only[cH,eU Z];rfl)
 ·obtain⟨v,R,rfl⟩:=oX hs
  have:=aov u R
  simp only[eU Z]at this
  exact en (mu:=mu) (by simp only[cH,this,da];rfl)
 ·rename_i e
  obtain⟨zs,hz,hs⟩:=Option.bind_eq_some_iff.1 (fa (ik bb hs))
  split at hs
  ·cases hs
  ·rename_i hr
   cases hs
   have ja:zeroV P e=some zs:=hz
   refine en (mu:=mu) ?_
   simp only[cH,Jr,ja,Option.map_some,ck,X.I,choose,bn,List.map_cons,List.map_nil,cR (ρ:=ρ) (show b0 (zs.map mG)=false by simpa using hr),Ho]
 ·split at hs
  ·rename_i x H
   cases hs
   refine en (mu:=mu) ?_
   simp only[cH,<-eU Z,X.Ar ρ _ H,ED,X.nV ρ _ H,if_true,X.I,choose,bn,List.map_cons,List.map_nil,Option.map_some,cR (ρ:=ρ) (aha H)]
  ·cases hs
 ·obtain⟨v,R,rfl⟩:=r5 (ik bb hs)
  refine en (mu:=mu) ?_
  simp only[cH,<-eU Z,aia u R,da];rfl
 ·obtain⟨v,R,rfl⟩:=T.jk _ (ik bb hs)
  refine en (mu:=mu) ?_
  obtain⟨A,E⟩:=arH (ρ:=ρ) u R
  simp only[cH,<-eU Z,X.Ar ρ _ A,E,GA];rfl
 ·obtain⟨v,R,rfl⟩:=oX hs
  refine en (mu:=mu) ?_
  simp only[cH,<-eU Z,ajd R,da];rfl
 ·obtain⟨v,R,rfl⟩:=r5 (ik bb hs)
  refine en (mu:=mu) ?_
  simp only[cH,<-eU Z,agW u R,da];rfl
 ·obtain⟨v,R,rfl⟩:=oX (ik bb hs)
  refine en (mu:=mu) ?_
  simp only[cH,<-eU Z,aff R,da];rfl
 ·obtain⟨v,R,rfl⟩:=oX (ik bb hs)
  refine en (mu:=mu) ?_
  simp only[cH,<-eU Z,afh R,da];rfl
 ·obtain⟨v,R,rfl⟩:=r5 (ik bb hs)
  refine en (mu:=mu) ?_
  simp only[cH,<-eU Z,ag2 u R,da];rfl
 ·rename_i ty x lo hi
  have hs:=ik bb hs
  split at hs
  ·rename_i l r O hr
   obtain⟨v,R,rfl⟩:=r5 hs
   have cu:hi.isNone=(hi.map (cq g)).isNone:=by cases hi<;>rfl
   rw[cu]at R
   obtain⟨w,hw,a0⟩:=arl u O hr R
   refine acK (mu:=mu) (r:=w) ?_ a0
   have e:∀o:Option Operand,(o.map (cq g)).map (X.I ρ)=ll t o:=fun o=>by cases o<;>simp only[Option.map_none,Option.map_some,ll,eU Z]
   rw[e,e,eU Z]at hw
   have e0:ll t none=none:=rfl
   simp only[cH,e0,hw,da];rfl
  ·cases hs
 ·rename_i ty x lo hi mx
  obtain⟨v,R,rfl⟩:=oX (ik bb hs)
  refine en (mu:=mu) ?_
  have hw:=ark (ρ:=ρ) R
  have e:∀o:Option Operand,(o.map (cq g)).map (X.I ρ)=ll t o:=fun o=>by cases o<;>simp only[Option.map_none,Option.map_some,ll,eU Z]
  have e':∀o:Operand,some ((cq g o).I ρ)=ll t (some o):=fun o=>by simp only[ll,eU Z]
  rw[e,e',e',eU Z]at hw
  simp only[cH,hw,da];rfl
 ·rename_i av8 ty x y ty'
  have hs:=ik bb hs
  split at hs
  ·rename_i hy
   obtain⟨v,R,rfl⟩:=r5 hs
   refine en (mu:=mu) ?_
   have A:=aja (ρ:=ρ) u R
   have e2:(cq g y).I ρ = .sc (.slice none 0 0):=by rw[hy];rfl
   simp only[cH,<-eU Z,e2,A,da];rfl
  ·rename_i hy
   obtain⟨v,R,rfl⟩:=oX hs
   refine en (mu:=mu) ?_
   have A:=aoZ (ρ:=ρ) R
   have e2:(cq g y).I ρ = .sc (.pointer none):=by rw[hy];rfl
   simp only[cH,<-eU Z,e2,A,da];rfl
  ·obtain⟨v,R,rfl⟩:=r5 hs
   refine en (mu:=mu) ?_
   simp only[cH,<-eU Z,adC (adD u R),da];rfl
 ·obtain⟨v,R,rfl⟩:=r5 hs
  refine en (mu:=mu) ?_
  simp only[cH,<-eU Z,atk u R,da];rfl
 ·obtain⟨v,R,rfl⟩:=r5 (ik bb (ik bb hs))
  refine en (mu:=mu) ?_
  simp only[cH,<-eU Z,aed u R,da];rfl
 ·rename_i x i
  split at hs
  ·rename_i vs hx
   obtain⟨v,R,rfl⟩:=oX hs
   refine en (mu:=mu) ?_
   simp only[cH,<-eU Z,hx,X.I,Lx,X.uX,R,Option.map_some,da];rfl
  ·cases hs
 ·cases hs
  refine en (mu:=mu) ?_
  simp only[cH,<-Fc Z,X.I];rfl
 ·obtain⟨v,R,rfl⟩:=oX (ik bb hs)
  refine en (mu:=mu) ?_
  simp only[cH,<-Ll Z,adN R,da];rfl
 ·obtain⟨p,R,rfl⟩:=Option.map_eq_some_iff.1 (fa (ik bb hs))
  obtain⟨v,d⟩:=p
  refine en (mu:=mu) ?_
  simp only[cH,<-Ll Z,adM bb R,lC]
 ·obtain⟨p,R,rfl⟩:=T.jk _ (ik bb hs)
  obtain⟨v,d⟩:=p
  refine en (mu:=mu) ?_
  simp only[cH,<-eU Z,aio bb u R,lC]
 ·rename_i b args gQ
  have hL:=Fc (ρ:=ρ) Z args.toList
  split at hs
  ·rename_i ty _ x _ A E
   obtain⟨v,R,rfl⟩:=r5 (ik bb hs)
   rw[E]at hL
   refine en (mu:=mu) ?_
   simp only[cH,A,<-hL,X.af,mX,ah1 u R,da];rfl
  ·rename_i x xs E
   obtain⟨v,R,rfl⟩:=oX hs
   rw[E]at hL
   refine en (mu:=mu) ?_
   simp only[cH,<-hL,X.af,mX,Wt R,da];rfl
  ·rename_i x xs E
   obtain⟨v,R,rfl⟩:=oX hs
   rw[E]at hL
   refine en (mu:=mu) ?_
   simp only[cH,<-hL,X.af,mX,Wz R,da];rfl
  ·rename_i ty xt s x A E
   obtain⟨p,R,rfl⟩:=T.jk _ (ik bb (ik bb hs))
   rw[E]at hL
   refine en (mu:=mu) ?_
   simp only[cH,A,<-hL,X.af,mX,ac4 bb u R,lC]
  ·rename_i ty xt s x A E
   obtain⟨p,R,rfl⟩:=Option.map_eq_some_iff.1 (fa (ik bb hs))
   rw[E]at hL
   refine en (mu:=mu) ?_
   simp only[cH,A,<-hL,X.af,mX,aee R,lC]
  ·obtain⟨v,R,rfl⟩:=oX hs
   have hb:=aef (ρ:=ρ) R
   rw[hL]at hb
   refine en (mu:=mu) ?_
   simp only[cH]
   exact adQ R hb
 ·rename_i x args gQ
  split at hs
  ·rename_i f xs ys hx
   cases hs
   simp only[XR.Zu,cH,<-eU Z,hx,X.I,EH,<-Fc Z,X.gf]
  ·cases hs
 ·cases hs
end Go.Proofs.Xw
