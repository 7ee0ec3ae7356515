/- Parts of the logic that the proof runs in, one behind the other. -/
import Derived.Test.YtpdfmnhgocpkcaaGreatTM1
namespace Go.Proofs.Xw
open Go Go.Proofs.Aw
abbrev NA:={v:AV // Aw.b8 (fun _=>false) v=true/\v.one=true}
def kz:Nat->Nat->Nat->NA:=fun _ _ _=>⟨.sc (.bool false),rfl,rfl⟩
structure aa where
 i:Nat->Int
 b:Nat->Bool
 s:Nat->ByteArray
 len:Nat->Nat
 ci:Nat->Nat->Nat->Int
 cb:Nat->Nat->Nat->Bool
 cs:Nat->Nat->Nat->ByteArray
 ct:Nat->Nat->Nat->NA
inductive a7 where
 | add | sub | mul | quo | rem | and | or | xor | andNot | shl | shr | max | min | conv | cW | fO | np
 deriving DecidableEq,Inhabited
def a7.I:a7->IntKind->Int->Int->Int
 | .add,k,a,b=>k.wrap (a+b)
 | .sub,k,a,b=>k.wrap (a-b)
 | .mul,k,a,b=>k.wrap (a*b)
 | .quo,k,a,b=>k.wrap (a.tdiv b)
 | .rem,_,a,b=>a.tmod b
 | .and,k,a,b=>bits .and k a b
 | .or,k,a,b=>bits .or k a b
 | .xor,k,a,b=>bits .xor k a b
 | .andNot,k,a,b=>bits .andNot k a b
 | .shl,k,a,b=>k.wrap (a*2 ^ (Min.min b.toNat k.bits))
 | .shr,k,a,b=>a.fdiv (2 ^ (Min.min b.toNat k.bits))
 | .max,_,a,b=>Max.max a b
 | .min,_,a,b=>Min.min a b
 | .conv,k,a,_=>k.wrap a
 | .cW,_,a,b=>a+b
 | .fO,_,a,b=>a-b
 | .np,_,a,b=>a*b
mutual
inductive U where
 | lit (n:Int) | var (i:Nat) | cl (l k:Nat) (j:U) | len (l:Nat) | cB (t:TE) | fD (t:TE) (j:U)
 | op (o:a7) (k:IntKind) (a b:U) | ite (c:BE) (a b:U) | uf (k j:Nat) (a:AL)
inductive AL where
 | nil | i (e:U) (r:AL) | b (e:BE) (r:AL) | s (e:TE) (r:AL)
inductive BE where
 | lit (b:Bool) | var (i:Nat) | cl (l k:Nat) (j:U) | lt (a b:U) | eq (a b:U) | seq (a b:TE) | slt (a b:TE)
 | not (a:BE) | and (a b:BE) | or (a b:BE) | ite (c a b:BE)
inductive TE where
 | lit (s:ByteArray) | var (i:Nat) | cl (l k:Nat) (j:U) | sub (t:TE) (a b:U) | ite (c:BE) (a b:TE)
end
instance:Inhabited U:=⟨.lit 0⟩
instance:Inhabited BE:=⟨.lit false⟩
instance:Inhabited TE:=⟨.var 0⟩
mutual
noncomputable def U.I (ρ:aa):U->Int
 | .lit n=>n
 | .var i=>ρ.i i
 | .cl l k j=>ρ.ci l k (j.I ρ).toNat
 | .len l=>ρ.len l
 | .cB t=>(t.I ρ).size
 | .fD t j=>(((t.I ρ)[(j.I ρ).toNat]?).getD 0).toNat
 | .op o k a b=>o.I k (a.I ρ) (b.I ρ)
 | .ite c a b=>if c.I ρ=true then a.I ρ else b.I ρ
 | .uf k j a=>UF k (a.I ρ) j
noncomputable def AL.I (ρ:aa):AL->List Value
 | .nil=>[]
 | .i e r => .int .i64 (e.I ρ)::r.I ρ
 | .b e r => .bool (e.I ρ)::r.I ρ
 | .s e r => .string (e.I ρ)::r.I ρ
noncomputable def BE.I (ρ:aa):BE->Bool
 | .lit b=>b
 | .var i=>ρ.b i
 | .cl l k j=>ρ.cb l k (j.I ρ).toNat
 | .lt a b=>decide (a.I ρ<b.I ρ)
 | .eq a b=>a.I ρ==b.I ρ
 | .seq a b=>(a.I ρ).toList==(b.I ρ).toList
 | .slt a b=>Op.bytesLess (a.I ρ).toList (b.I ρ).toList
 | .not a => !a.I ρ
 | .and a b=>a.I ρ&&b.I ρ
 | .or a b=>a.I ρ||b.I ρ
 | .ite c a b=>if c.I ρ=true then a.I ρ else b.I ρ
noncomputable def TE.I (ρ:aa):TE->ByteArray
 | .lit s=>s
 | .var i=>ρ.s i
 | .cl l k j=>ρ.cs l k (j.I ρ).toNat
 | .sub t a b=>(t.I ρ).extract (a.I ρ).toNat (b.I ρ).toNat
 | .ite c a b=>if c.I ρ=true then a.I ρ else b.I ρ
end
def VM:IntKind->Nat
 | .i8=>0 | .i16=>1 | .i32=>2 | .i64=>3 | .u8=>4 | .u16=>5 | .u32=>6 | .u64=>7
def ml (a b:IntKind):Bool:=Nat.beq (VM a) (VM b)
theorem om {a b:IntKind} (h:ml a b=true):a=b:=by cases a<;>cases b<;>first | rfl | exact absurd h (by decide)
def a7.code:a7->Nat
 | .add=>0 | .sub=>1 | .mul=>2 | .quo=>3 | .rem=>4 | .and=>5 | .or=>6 | .xor=>7 | .andNot=>8 | .shl=>9 | .shr=>10 | .max=>11 | .min=>12 | .conv=>13 | .cW=>14 | .fO=>15 | .np=>16
def a7.beq (a b:a7):Bool:=Nat.beq a.code b.code
theorem a7.beq_eq {a b:a7} (h:a.beq b=true):a=b:=by cases a<;>cases b<;>first | rfl | exact absurd h (by decide)
def JS (a b:ByteArray):Bool:=a.data.toList==b.data.toList
theorem adr {a b:ByteArray} (h:JS a b=true):a=b:=by
 obtain⟨⟨a⟩⟩:=a
 obtain⟨⟨b⟩⟩:=b
 simp only[JS,beq_iff_eq]at h
 rw[h]
mutual
def U.beq:U->U->Bool
 | .lit a,.lit b=>a==b
 | .var a,.var b=>Nat.beq a b
 | .cl l k j,.cl l' k' j'=>Nat.beq l l'&&(Nat.beq k k'&&j.beq j')
 | .len a,.len b=>Nat.beq a b
 | .cB a,.cB b=>a.beq b
 | .fD t j,.fD t' j'=>t.beq t'&&j.beq j'
 | .op o k a b,.op o' k' bz dn=>o.beq o'&&(ml k k'&&(a.beq bz&&b.beq dn))
 | .ite c a b,.ite dx bz dn=>c.beq dx&&(a.beq bz&&b.beq dn)
 | .uf k j a,.uf k' j' bz=>Nat.beq k k'&&(Nat.beq j j'&&a.beq bz)
 | _,_=>false
def AL.beq:AL->AL->Bool
 | .nil,.nil=>true
 | .i e r,.i e' r'=>e.beq e'&&r.beq r'
 | .b e r,.b e' r'=>e.beq e'&&r.beq r'
 | .s e r,.s e' r'=>e.beq e'&&r.beq r'
 | _,_=>false
def BE.beq:BE->BE->Bool
 | .lit a,.lit b=>a==b
 | .var a,.var b=>Nat.beq a b
 | .cl l k j,.cl l' k' j'=>Nat.beq l l'&&(Nat.beq k k'&&j.beq j')
 | .lt a b,.lt bz dn=>a.beq bz&&b.beq dn
 | .eq a b,.eq bz dn=>a.beq bz&&b.beq dn
 | .seq a b,.seq bz dn=>a.beq bz&&b.beq dn
 | .slt a b,.slt bz dn=>a.beq bz&&b.beq dn
 | .not a,.not bz=>a.beq bz
 | .and a b,.and bz dn=>a.beq bz&&b.beq dn
 | .or a b,.or bz dn=>a.beq bz&&b.beq dn
 | .ite c a b,.ite dx bz dn=>c.beq dx&&(a.beq bz&&b.beq dn)
 | _,_=>false
def TE.beq:TE->TE->Bool
 | .lit a,.lit b=>JS a b
 | .var a,.var b=>Nat.beq a b
 | .cl l k j,.cl l' k' j'=>Nat.beq l l'&&(Nat.beq k k'&&j.beq j')
 | .sub t a b,.sub t' bz dn=>t.beq t'&&(a.beq bz&&b.beq dn)
 | .ite c a b,.ite dx bz dn=>c.beq dx&&(a.beq bz&&b.beq dn)
 | _,_=>false
end
mutual
theorem U.beq_eq:∀(a b:U),a.beq b=true->a=b
 | .lit a,b,h=>by cases b<;>simp[U.beq]at h ⊢;exact h
 | .var a,b,h=>by cases b<;>simp[U.beq]at h ⊢;exact h
 | .cl l k j,b,h=>by
  cases b<;>simp[U.beq]at h ⊢
  exact⟨h.1,h.2.1,U.beq_eq _ _ h.2.2⟩
 | .len a,b,h=>by cases b<;>simp[U.beq]at h ⊢;exact h
 | .cB a,b,h=>by
  cases b<;>simp[U.beq]at h ⊢
  exact TE.beq_eq _ _ h
 | .fD t j,b,h=>by
  cases b<;>simp[U.beq]at h ⊢
  exact⟨TE.beq_eq _ _ h.1,U.beq_eq _ _ h.2⟩
 | .op o k x y,b,h=>by
  cases b<;>simp[U.beq]at h ⊢
  exact⟨a7.beq_eq h.1,om h.2.1,U.beq_eq _ _ h.2.2.1,U.beq_eq _ _ h.2.2.2⟩
 | .ite c x y,b,h=>by
  cases b<;>simp[U.beq]at h ⊢
  exact⟨BE.beq_eq _ _ h.1,U.beq_eq _ _ h.2.1,U.beq_eq _ _ h.2.2⟩
 | .uf k j x,b,h=>by
  cases b<;>simp[U.beq]at h ⊢
  exact⟨h.1,h.2.1,AL.beq_eq _ _ h.2.2⟩
theorem AL.beq_eq:∀(a b:AL),a.beq b=true->a=b
 | .nil,b,h=>by cases b<;>simp[AL.beq]at h ⊢
 | .i x y,b,h=>by
  cases b<;>simp[AL.beq]at h ⊢
  exact⟨U.beq_eq _ _ h.1,AL.beq_eq _ _ h.2⟩
 | .b x y,b,h=>by
  cases b<;>simp[AL.beq]at h ⊢
  exact⟨BE.beq_eq _ _ h.1,AL.beq_eq _ _ h.2⟩
 | .s x y,b,h=>by
  cases b<;>simp[AL.beq]at h ⊢
  exact⟨TE.beq_eq _ _ h.1,AL.beq_eq _ _ h.2⟩
theorem BE.beq_eq:∀(a b:BE),a.beq b=true->a=b
 | .lit a,b,h=>by cases b<;>simp[BE.beq]at h ⊢;exact h
 | .var a,b,h=>by cases b<;>simp[BE.beq]at h ⊢;exact h
 | .cl l k j,b,h=>by
  cases b<;>simp[BE.beq]at h ⊢
  exact⟨h.1,h.2.1,U.beq_eq _ _ h.2.2⟩
 | .lt x y,b,h=>by
  cases b<;>simp[BE.beq]at h ⊢
  exact⟨U.beq_eq _ _ h.1,U.beq_eq _ _ h.2⟩
 | .eq x y,b,h=>by
  cases b<;>simp[BE.beq]at h ⊢
  exact⟨U.beq_eq _ _ h.1,U.beq_eq _ _ h.2⟩
 | .seq x y,b,h=>by
  cases b<;>simp[BE.beq]at h ⊢
  exact⟨TE.beq_eq _ _ h.1,TE.beq_eq _ _ h.2⟩
 | .slt x y,b,h=>by
  cases b<;>simp[BE.beq]at h ⊢
  exact⟨TE.beq_eq _ _ h.1,TE.beq_eq _ _ h.2⟩
 | .not x,b,h=>by
  cases b<;>simp[BE.beq]at h ⊢
  exact BE.beq_eq _ _ h
 | .and x y,b,h=>by
  cases b<;>simp[BE.beq]at h ⊢
  exact⟨BE.beq_eq _ _ h.1,BE.beq_eq _ _ h.2⟩
 | .or x y,b,h=>by
  cases b<;>simp[BE.beq]at h ⊢
  exact⟨BE.beq_eq _ _ h.1,BE.beq_eq _ _ h.2⟩
 | .ite c x y,b,h=>by
  cases b<;>simp[BE.beq]at h ⊢
  exact⟨BE.beq_eq _ _ h.1,BE.beq_eq _ _ h.2.1,BE.beq_eq _ _ h.2.2⟩
theorem TE.beq_eq:∀(a b:TE),a.beq b=true->a=b
 | .lit a,b,h=>by
  cases b<;>simp[TE.beq]at h ⊢
  exact adr h
 | .var a,b,h=>by cases b<;>simp[TE.beq]at h ⊢;exact h
 | .cl l k j,b,h=>by
  cases b<;>simp[TE.beq]at h ⊢
  exact⟨h.1,h.2.1,U.beq_eq _ _ h.2.2⟩
 | .sub t x y,b,h=>by
  cases b<;>simp[TE.beq]at h ⊢
  exact⟨TE.beq_eq _ _ h.1,U.beq_eq _ _ h.2.1,U.beq_eq _ _ h.2.2⟩
 | .ite c x y,b,h=>by
  cases b<;>simp[TE.beq]at h ⊢
  exact⟨BE.beq_eq _ _ h.1,TE.beq_eq _ _ h.2.1,TE.beq_eq _ _ h.2.2⟩
end
def mkNot:BE->BE
 | .lit b => .lit (!b)
 | .not a=>a
 | a => .not a
theorem et (ρ:aa) (a:BE):(mkNot a).I ρ = !a.I ρ:=by
 unfold mkNot;split<;>simp[BE.I]
def BE.r6:BE->BE->Bool
 | .not a,b=>a.beq b
 | a,.not b=>a.beq b
 | _,_=>false
theorem BE.SB {ρ:aa} {a b:BE} (h:a.r6 b=true):(a.I ρ||b.I ρ)=true:=by
 unfold BE.r6 at h
 split at h
 ·rw[BE.beq_eq _ _ h];simp[BE.I]
 ·rw[BE.beq_eq _ _ h];simp[BE.I]
 ·cases h
theorem BE.SC {ρ:aa} {a b:BE} (h:a.r6 b=true):(a.I ρ&&b.I ρ)=false:=by
 unfold BE.r6 at h
 split at h
 ·rw[BE.beq_eq _ _ h];simp[BE.I]
 ·rw[BE.beq_eq _ _ h];simp[BE.I]
 ·cases h
def mkAnd (a b:BE):BE :=
 match a,b with
 | .lit true,b=>b
 | .lit false,_ => .lit false
 | a,.lit true=>a
 | _,.lit false => .lit false
 | a,.or c d=>if a.r6 c=true then .and a d else if a.beq c=true then a else .and a (.or c d)
 | a,b=>if a.beq b=true then a else if a.r6 b=true then .lit false else .and a b
theorem fM (ρ:aa) (a b:BE):(mkAnd a b).I ρ=(a.I ρ&&b.I ρ):=by
 unfold mkAnd
 split
 ·simp[BE.I]
 ·simp[BE.I]
 ·simp[BE.I]
 ·simp[BE.I]
 ·split
  ·rename_i h
   have:=BE.SC (ρ:=ρ) h
   simp only[BE.I]
   cases ha:BE.I ρ a
   ·simp
   ·rw[ha,Bool.true_and]at this;simp[this]
  ·split
   ·rename_i h;rw[BE.beq_eq _ _ h];simp only[BE.I];cases BE.I ρ _<;>simp
   ·simp[BE.I]
 ·split
  ·rename_i h;rw[BE.beq_eq _ _ h];simp
  ·split
   ·rename_i h;rw[BE.SC h];rfl
   ·simp[BE.I]
def mkOr (a b:BE):BE :=
 match a,b with
 | .lit false,b=>b
 | .lit true,_ => .lit true
 | a,.lit false=>a
 | _,.lit true => .lit true
 | a,.and c d=>if a.r6 c=true then .or a d else if a.beq c=true then a else .or a (.and c d)
 | a,b=>if a.beq b=true then a else if a.r6 b=true then .lit true else .or a b
theorem ox (ρ:aa) (a b:BE):(mkOr a b).I ρ=(a.I ρ||b.I ρ):=by
 unfold mkOr
 split
 ·simp[BE.I]
 ·simp[BE.I]
 ·simp[BE.I]
 ·simp[BE.I]
 ·split
  ·rename_i h
   have:=BE.SB (ρ:=ρ) h
   simp only[BE.I]
   cases ha:BE.I ρ a
   ·rw[ha,Bool.false_or]at this;simp[this]
   ·simp
  ·split
   ·rename_i h;rw[BE.beq_eq _ _ h];simp only[BE.I];cases BE.I ρ _<;>simp
   ·simp[BE.I]
 ·split
  ·rename_i h;rw[BE.beq_eq _ _ h];simp
  ·split
   ·rename_i h;rw[BE.SB h];rfl
   ·simp[BE.I]
def iq (c a b:BE):BE :=
 match c with
 | .lit true=>a
 | .lit false=>b
 | c=>if a.beq b=true then a else
  match a,b with
  | .lit true,.lit false=>c
  | .lit false,.lit true=>mkNot c
  | .lit true,b=>mkOr c b
  | .lit false,b=>mkAnd (mkNot c) b
  | a,.lit true=>mkOr (mkNot c) a
  | a,.lit false=>mkAnd c a
  | a,b => .ite c a b
theorem kx (ρ:aa) (c a b:BE):(iq c a b).I ρ=if c.I ρ=true then a.I ρ else b.I ρ:=by
 unfold iq
 split
 ·simp[BE.I]
 ·simp[BE.I]
 ·split
  ·rename_i h;rw[BE.beq_eq _ _ h];simp
  ·split<;>simp only[et,ox,fM,BE.I]<;>cases BE.I ρ c<;>simp
def lr (c:BE) (a b:U):U :=
 match c with
 | .lit true=>a
 | .lit false=>b
 | c=>if a.beq b=true then a else .ite c a b
theorem s6 (ρ:aa) (c:BE) (a b:U):(lr c a b).I ρ=if c.I ρ=true then a.I ρ else b.I ρ:=by
 unfold lr
 split
 ·simp[BE.I]
 ·simp[BE.I]
 ·split
  ·rename_i h;rw[U.beq_eq _ _ h];simp
  ·simp[U.I]
def GA (c:BE) (a b:TE):TE :=
 match c with
 | .lit true=>a
 | .lit false=>b
 | c=>if a.beq b=true then a else .ite c a b
theorem Wn (ρ:aa) (c:BE) (a b:TE):(GA c a b).I ρ=if c.I ρ=true then a.I ρ else b.I ρ:=by
 unfold GA
 split
 ·simp[BE.I]
 ·simp[BE.I]
 ·split
  ·rename_i h;rw[TE.beq_eq _ _ h];simp
  ·simp[TE.I]
def mkEq:U->U->BE
 | .lit m,.lit n => .lit (m==n)
 | .lit m,b => .eq b (.lit m)
 | .ite c a b,.lit n=>iq c (mkEq a (.lit n)) (mkEq b (.lit n))
 | a,b=>if a.beq b=true then .lit true else .eq a b
theorem eQ (ρ:aa):∀(a b:U),(mkEq a b).I ρ=(a.I ρ==b.I ρ):=by
 intro a b
 fun_induction mkEq a b with
 | case1=>simp[BE.I,U.I]
 | case2 m b h=>simp only[BE.I,U.I,BEq.comm]
 | case3 c a b n el es=>rw[kx,el,es];simp only[U.I];split<;>rfl
 | case4=>rename_i h;rw[U.beq_eq _ _ h];simp[BE.I]
 | case5 a b=>simp[BE.I]
def bQ (n:Int):U->BE
 | .lit m => .lit (decide (m<n))
 | .ite c a b=>iq c (bQ n a) (bQ n b)
 | a => .lt a (.lit n)
theorem NN (ρ:aa) (n:Int):∀a:U,(bQ n a).I ρ=decide (a.I ρ<n)
 | .lit m=>by simp only[bQ,BE.I,U.I];exact decide_eq_decide.2 Iff.rfl
 | .ite c a b=>by simp only[bQ,kx,NN ρ n a,NN ρ n b,U.I];split<;>rfl
 | .var i=>by simp only[bQ,BE.I];exact decide_eq_decide.2 Iff.rfl
 | .cl l k j=>by simp only[bQ,BE.I];exact decide_eq_decide.2 Iff.rfl
 | .len l=>by simp only[bQ,BE.I];exact decide_eq_decide.2 Iff.rfl
 | .cB t=>by simp only[bQ,BE.I];exact decide_eq_decide.2 Iff.rfl
 | .fD t j=>by simp only[bQ,BE.I];exact decide_eq_decide.2 Iff.rfl
 | .op o k a b=>by simp only[bQ,BE.I];exact decide_eq_decide.2 Iff.rfl
 | .uf _ _ _=>by simp only[bQ,BE.I];exact decide_eq_decide.2 Iff.rfl
def mq (n:Int):U->BE
 | .lit m => .lit (decide (n<m))
 | .ite c a b=>iq c (mq n a) (mq n b)
 | a => .lt (.lit n) a
theorem NO (ρ:aa) (n:Int):∀a:U,(mq n a).I ρ=decide (n<a.I ρ)
 | .lit m=>by simp only[mq,BE.I,U.I];exact decide_eq_decide.2 Iff.rfl
 | .ite c a b=>by simp only[mq,kx,NO ρ n a,NO ρ n b,U.I];split<;>rfl
 | .var i=>by simp only[mq,BE.I];exact decide_eq_decide.2 Iff.rfl
 | .cl l k j=>by simp only[mq,BE.I];exact decide_eq_decide.2 Iff.rfl
 | .len l=>by simp only[mq,BE.I];exact decide_eq_decide.2 Iff.rfl
 | .cB t=>by simp only[mq,BE.I];exact decide_eq_decide.2 Iff.rfl
 | .fD t j=>by simp only[mq,BE.I];exact decide_eq_decide.2 Iff.rfl
 | .op o k a b=>by simp only[mq,BE.I];exact decide_eq_decide.2 Iff.rfl
 | .uf _ _ _=>by simp only[mq,BE.I];exact decide_eq_decide.2 Iff.rfl
def base:U->U×Int
 | .op .cW _ a (.lit c)=>(a,c)
 | .op .cW _ (.lit c) a=>(a,c)
 | .op .fO _ a (.lit c)=>(a,-c)
 | a=>(a,0)
theorem mL (ρ:aa) (a:U):a.I ρ=(base a).1.I ρ+(base a).2:=by
 unfold base
 split<;>simp only[U.I,a7.I]<;>omega
def mkLt:U->U->BE
 | a,.lit n=>bQ n a
 | .lit n,b=>mq n b
 | a,b=>if(base a).1.beq (base b).1=true then .lit (decide ((base a).2<(base b).2))else .lt a b
theorem gY (ρ:aa) (a b:U):(mkLt a b).I ρ=decide (a.I ρ<b.I ρ):=by
 unfold mkLt
 split
 ·rw[NN];exact decide_eq_decide.2 Iff.rfl
 ·rw[NO];exact decide_eq_decide.2 Iff.rfl
 ·split
  ·rename_i h
   rw[mL ρ a,mL ρ b,U.beq_eq _ _ h]
   simp only[BE.I]
   exact decide_eq_decide.2 (by omega)
  ·simp only[BE.I]
def mkSeq:TE->TE->BE
 | .lit m,.lit n => .lit (m.toList==n.toList)
 | a,b=>if a.beq b=true then .lit true else .seq a b
theorem N4 (ρ:aa) (a b:TE):(mkSeq a b).I ρ=((a.I ρ).toList==(b.I ρ).toList):=by
 unfold mkSeq
 split
 ·simp[BE.I,TE.I]
 ·split
  ·rename_i h;rw[TE.beq_eq _ _ h];simp[BE.I]
  ·simp[BE.I]
def hQ (o:a7) (k:IntKind) (a b:U):U :=
 match a,b with
 | .lit m,.lit n => .lit (o.I k m n)
 | a,b => .op o k a b
theorem ow (ρ:aa) (o:a7) (k:IntKind) (a b:U):(hQ o k a b).I ρ=o.I k (a.I ρ) (b.I ρ):=by
 unfold hQ;split<;>simp[U.I]
def mkMul:U->U->U
 | .lit m,.lit n => .lit (m*n)
 | a,.lit n=>if n==0 then .lit 0 else if n==1 then a else .op .np .i64 (.lit n) a
 | .lit n,b=>if n==0 then .lit 0 else if n==1 then b else .op .np .i64 (.lit n) b
 | a,b => .op .np .i64 a b
theorem yD (ρ:aa) (a b:U):(mkMul a b).I ρ=a.I ρ*b.I ρ:=by
 unfold mkMul
 split
 ·simp[U.I]
 ·split
  ·rename_i h;simp only[beq_iff_eq]at h;subst h;simp[U.I]
  ·split
   ·rename_i h;simp only[beq_iff_eq]at h;subst h;simp[U.I]
   ·simp only[U.I,a7.I];exact Int.mul_comm _ _
 ·split
  ·rename_i h;simp only[beq_iff_eq]at h;subst h;simp[U.I]
  ·split
   ·rename_i h;simp only[beq_iff_eq]at h;subst h;simp[U.I]
   ·simp only[U.I,a7.I]
 ·simp[U.I,a7.I]
def s7:TE->U
 | .lit s => .lit s.size
 | t => .cB t
theorem yF (ρ:aa) (t:TE):(s7 t).I ρ=(t.I ρ).size:=by
 unfold s7;split<;>simp[U.I,TE.I]
def mkIff (a b:BE):BE:=if a.beq b=true then .lit true else iq a b (mkNot b)
theorem Gz (ρ:aa) (a b:BE):(mkIff a b).I ρ=(a.I ρ==b.I ρ):=by
 unfold mkIff
 split
 ·rename_i h;rw[BE.beq_eq _ _ h];simp[BE.I]
 ·rw[kx,et];cases a.I ρ<;>cases b.I ρ<;>rfl
end Go.Proofs.Xw
namespace Go.Proofs.Xw
open Go Go.Proofs.Aw
abbrev J:=List (BE×Bool)
def J.ok (ρ:aa) (B:J):Prop:=∀p∈B,p.1.I ρ=p.2
theorem J.bq (ρ:aa):J.ok ρ []:=fun _ h=>by cases h
theorem J.av {ρ:aa} {c:BE} {v:Bool} {B:J} (h:c.I ρ=v) (u:J.ok ρ B):J.ok ρ ((c,v)::B):=fun p hp=>by
 rcases List.mem_cons.1 hp with rfl | hp
 ·exact h
 ·exact u p hp
theorem J.vS {ρ:aa} {p:BE×Bool} {B:J} (h:J.ok ρ (p::B)):p.1.I ρ=p.2/\J.ok ρ B:=⟨h p List.mem_cons_self,fun q hq=>h q (List.mem_cons_of_mem _ hq)⟩
structure Iv where
 lo:Option Int
 hi:Option Int
def Iv.ok (v:Iv) (x:Int):Prop:=(∀l,v.lo=some l->l<=x)/\(∀h,v.hi=some h->x<=h)
def Ha:Option Int->Option Int->Option Int
 | some a,some b=>some (if a<b then b else a)
 | some a,none=>some a
 | none,b=>b
def yO:Option Int->Option Int->Option Int
 | some a,some b=>some (if b<a then b else a)
 | some a,none=>some a
 | none,b=>b
def Iv.meet (a b:Iv):Iv:=⟨Ha a.lo b.lo,yO a.hi b.hi⟩
theorem Iv.NS {a b:Iv} {x:Int} (ha:a.ok x) (hb:b.ok x):(a.meet b).ok x:=by
 obtain⟨di,t5⟩:=a
 obtain⟨w2,ac7⟩:=b
 refine⟨fun l M => ?_,fun h W => ?_⟩
 ·cases di<;>cases w2<;>simp only[Iv.meet,Ha,Option.some.injEq,reduceCtorEq]at M
  ·exact hb.1 _ (by simp[M])
  ·exact ha.1 _ (by simp[M])
  ·subst M;split
   ·exact hb.1 _ rfl
   ·exact ha.1 _ rfl
 ·cases t5<;>cases ac7<;>simp only[Iv.meet,yO,Option.some.injEq,reduceCtorEq]at W
  ·exact hb.2 _ (by simp[W])
  ·exact ha.2 _ (by simp[W])
  ·subst W;split
   ·exact hb.2 _ rfl
   ·exact ha.2 _ rfl
def M7 (e:U):BE×Bool->Iv
 | (.lt a (.lit n),true)=>if a.beq e=true then⟨none,some (n-1)⟩else⟨none,none⟩
 | (.lt a (.lit n),false)=>if a.beq e=true then⟨some n,none⟩else⟨none,none⟩
 | (.lt (.lit n) a,true)=>if a.beq e=true then⟨some (n+1),none⟩else⟨none,none⟩
 | (.lt (.lit n) a,false)=>if a.beq e=true then⟨none,some n⟩else⟨none,none⟩
 | (.eq a (.lit n),true)=>if a.beq e=true then⟨some n,some n⟩else⟨none,none⟩
 | _=>⟨none,none⟩
theorem Iv.lz (x:Int):Iv.ok ⟨none,none⟩ x:=⟨fun _ h=>(by cases h),fun _ h=>(by cases h)⟩
theorem ag0 {ρ:aa} {e:U} {p:BE×Bool} (h:p.1.I ρ=p.2):(M7 e p).ok (e.I ρ):=by
 unfold M7
 split
 ·split
  ·rename_i hb
   rw[<-U.beq_eq _ _ hb]
   have h:=of_decide_eq_true h
   simp only[U.I]at h
   exact⟨fun _ W=>(by cases W),fun _ W=>(by cases W;omega)⟩
  ·exact Iv.lz _
 ·split
  ·rename_i hb
   rw[<-U.beq_eq _ _ hb]
   have h:=of_decide_eq_false h
   simp only[U.I]at h
   exact⟨fun _ W=>(by cases W;omega),fun _ W=>(by cases W)⟩
  ·exact Iv.lz _
 ·split
  ·rename_i hb
   rw[<-U.beq_eq _ _ hb]
   have h:=of_decide_eq_true h
   simp only[U.I]at h
   exact⟨fun _ W=>(by cases W;omega),fun _ W=>(by cases W)⟩
  ·exact Iv.lz _
 ·split
  ·rename_i hb
   rw[<-U.beq_eq _ _ hb]
   have h:=of_decide_eq_false h
   simp only[U.I]at h
   exact⟨fun _ W=>(by cases W),fun _ W=>(by cases W;omega)⟩
  ·exact Iv.lz _
 ·split
  ·rename_i hb
   rw[<-U.beq_eq _ _ hb]
   simp only[BE.I,U.I,beq_iff_eq]at h
   exact⟨fun _ W=>(by cases W;omega),fun _ W=>(by cases W;omega)⟩
  ·exact Iv.lz _
 ·exact Iv.lz _
def M6:U->Iv
 | .lit n=>⟨some n,some n⟩
 | .len _=>⟨some 0,none⟩
 | .cB _=>⟨some 0,none⟩
 | .fD _ _=>⟨some 0,some 255⟩
 | .uf k _ _=>⟨some (jg k).1,some (jg k).2⟩
 | _=>⟨none,none⟩
theorem agZ (ρ:aa) (e:U):(M6 e).ok (e.I ρ):=by
 unfold M6
 split
 ·exact⟨fun _ W=>(by cases W;simp[U.I]),fun _ W=>(by cases W;simp[U.I])⟩
 ·exact⟨fun _ W=>(by cases W;simp[U.I]),fun _ W=>(by cases W)⟩
 ·exact⟨fun _ W=>(by cases W;simp[U.I]),fun _ W=>(by cases W)⟩
 ·refine⟨fun _ W=>(by cases W;simp[U.I]),fun _ W => ?_⟩
  cases W
  simp only[U.I]
  have:=UInt8.toNat_lt ((((TE.I ρ ‹TE›)[(U.I ρ ‹U›).toNat]?).getD 0))
  omega
 ·exact⟨fun _ W=>(by cases W;exact(DY _ _ _).1),fun _ W=>(by cases W;exact(DY _ _ _).2)⟩
 ·exact Iv.lz _
def BP (e:U):J->Iv
 | []=>M6 e
 | p::B=>(M7 e p).meet (BP e B)
theorem pq {ρ:aa} {e:U}:∀{B:J},J.ok ρ B->(BP e B).ok (e.I ρ)
 | [],_=>agZ ρ e
 | _::_,h=>Iv.NS (ag0 (J.vS h).1) (pq (J.vS h).2)
def yf (a b:Iv):Option Bool :=
 match a.hi,b.lo with
 | some h,some l=>if h<l then some true else(match a.lo,b.hi with | some l',some h'=>if h'<=l' then some false else none | _,_=>none)
 | _,_=>match a.lo,b.hi with | some l',some h'=>if h'<=l' then some false else none | _,_=>none
theorem yg {a b:Iv} {x y:Int} {r:Bool} (ha:a.ok x) (hb:b.ok y) (h:yf a b=some r):decide (x<y)=r:=by
 unfold yf at h
 split at h
 ·rename_i W l A E
  have:=ha.2 _ A
  have:=hb.1 _ E
  split at h
  ·cases h;exact decide_eq_true (by omega)
  ·split at h
   ·rename_i h3 h4
    have:=ha.1 _ h3
    have:=hb.2 _ h4
    split at h
    ·cases h;exact decide_eq_false (by omega)
    ·cases h
   ·cases h
 ·split at h
  ·rename_i h3 h4
   have:=ha.1 _ h3
   have:=hb.2 _ h4
   split at h
   ·cases h;exact decide_eq_false (by omega)
   ·cases h
  ·cases h
def FY (a b:Iv):Option Bool :=
 match yf a b,yf b a with
 | some true,_=>some false
 | _,some true=>some false
 | some false,some false=>some true
 | _,_=>none
theorem VG {a b:Iv} {x y:Int} {r:Bool} (ha:a.ok x) (hb:b.ok y) (h:FY a b=some r):(x==y)=r:=by
 unfold FY at h
 split at h
 ·rename_i A
  have:=yg ha hb A
  cases h;simp only[decide_eq_true_eq]at this
  exact beq_eq_false_iff_ne.2 (by omega)
 ·rename_i A _
  have:=yg hb ha A
  cases h;simp only[decide_eq_true_eq]at this
  exact beq_eq_false_iff_ne.2 (by omega)
 ·rename_i A E
  have:=yg ha hb A
  have:=yg hb ha E
  cases h;simp only[decide_eq_false_iff_not]at *
  exact beq_iff_eq.2 (by omega)
 ·cases h
def G1:Option Int->Option Int->Option Int
 | some a,some b=>some (a+b)
 | _,_=>none
theorem W1 {a b:Option Int} {c:Int} (h:G1 a b=some c):∃x y,a=some x/\b=some y/\c=x+y:=by
 unfold G1 at h
 split at h
 ·cases h;exact⟨_,_,rfl,rfl,rfl⟩
 ·cases h
def BO (a b:Iv):Iv:=⟨G1 a.lo b.lo,G1 a.hi b.hi⟩
theorem FX {a b:Iv} {x y:Int} (ha:a.ok x) (hb:b.ok y):(BO a b).ok (x+y):=by
 refine⟨fun l M => ?_,fun l M => ?_⟩
 ·obtain⟨p,q,hp,hq,rfl⟩:=W1 M
  have:=ha.1 p hp
  have:=hb.1 q hq
  omega
 ·obtain⟨p,q,hp,hq,rfl⟩:=W1 M
  have:=ha.2 p hp
  have:=hb.2 q hq
  omega
def Xq:Option Int->Option Int
 | some a=>some (-a)
 | none=>none
def M_ (a:Iv):Iv:=⟨Xq a.hi,Xq a.lo⟩
theorem VI {a:Iv} {x:Int} (ha:a.ok x):(M_ a).ok (-x):=by
 obtain⟨lo,hi⟩:=a
 refine⟨fun l M => ?_,fun l M => ?_⟩
 ·cases hi with
  | none=>cases M
  | some h=>cases M;have:=ha.2 h rfl;omega
 ·cases lo with
  | none=>cases M
  | some h=>cases M;have:=ha.1 h rfl;omega
def sR (a b:Int):Int:=if a<b then a else b
def imax (a b:Int):Int:=if a<b then b else a
def F0:Iv->Iv->Iv
 | ⟨some a,some b⟩,⟨some c,some d⟩=>⟨some (sR (sR (a*c) (a*d)) (sR (b*c) (b*d))),some (imax (imax (a*c) (a*d)) (imax (b*c) (b*d)))⟩
 | _,_=>⟨none,none⟩
theorem Og {x c d y:Int} (A:c<=y) (E:y<=d):sR (x*c) (x*d)<=x*y/\x*y<=imax (x*c) (x*d):=by
 unfold sR imax
 rcases Int.le_total 0 x with h | h
 ·have bm:=Int.mul_le_mul_of_nonneg_left A h
  have bl:=Int.mul_le_mul_of_nonneg_left E h
  constructor<;>split<;>omega
 ·have bm:=Int.mul_le_mul_of_nonpos_left h A
  have bl:=Int.mul_le_mul_of_nonpos_left h E
  constructor<;>split<;>omega
theorem VH {Y v:Iv} {x y:Int} (hu:Y.ok x) (R:v.ok y):(F0 Y v).ok (x*y):=by
 unfold F0
 split
 ·rename_i a b c d
  have bm:=hu.1 a rfl
  have bl:=hu.2 b rfl
  have c1:=R.1 c rfl
  have c2:=R.2 d rfl
  obtain⟨m1,m2⟩:=Og (x:=x) c1 c2
  obtain⟨p1,p2⟩:=Og (x:=c) bm bl
  obtain⟨q1,q2⟩:=Og (x:=d) bm bl
  rw[Int.mul_comm c x,Int.mul_comm c a,Int.mul_comm c b]at p1 p2
  rw[Int.mul_comm d x,Int.mul_comm d a,Int.mul_comm d b]at q1 q2
  refine⟨fun l M => ?_,fun l M => ?_⟩
  ·cases M
   revert m1 p1 q1
   unfold sR
   intro m1 p1 q1
   split at m1<;>split at p1<;>split at q1<;>(repeat' split)<;>omega
  ·cases M
   revert m2 p2 q2
   unfold imax
   intro m2 p2 q2
   split at m2<;>split at p2<;>split at q2<;>(repeat' split)<;>omega
 ·exact Iv.lz _
def M8:Iv->Iv->Iv
 | ⟨a,b⟩,⟨c,d⟩=>⟨match a,c with | some a,some c=>some (sR a c) | _,_=>none,match b,d with | some b,some d=>some (imax b d) | _,_=>none⟩
theorem ag1 {Y v:Iv} {x:Int} (h:Y.ok x\/v.ok x):(M8 Y v).ok x:=by
 obtain⟨a,b⟩:=Y
 obtain⟨c,d⟩:=v
 unfold M8
 refine⟨fun l M => ?_,fun l M => ?_⟩
 ·simp only at M
  split at M
  ·cases M
   unfold sR
   rcases h with h | h
   ·have:=h.1 _ rfl;split<;>omega
   ·have:=h.1 _ rfl;split<;>omega
  ·cases M
 ·simp only at M
  split at M
  ·cases M
   unfold imax
   rcases h with h | h
   ·have:=h.2 _ rfl;split<;>omega
   ·have:=h.2 _ rfl;split<;>omega
  ·cases M
def ye:IntKind->Iv->Iv
 | .i64,⟨some a,some b⟩=>if decide (-9223372036854775808<=a)&&decide (b<9223372036854775808)then⟨some a,some b⟩else⟨none,none⟩
 | .u64,⟨some a,some b⟩=>if decide (0<=a)&&decide (b<18446744073709551616)then⟨some a,some b⟩else⟨some 0,some 18446744073709551615⟩
 | .u64,_=>⟨some 0,some 18446744073709551615⟩
 | _,_=>⟨none,none⟩
theorem u64_in (x:Int) (h0:0<=x) (A:x<18446744073709551616):IntKind.u64.wrap x=x:=by
 have e:IntKind.u64.wrap x=x % 18446744073709551616:=by simp[IntKind.wrap,IntKind.bits,IntKind.signed]
 rw[e];omega
theorem aac (x:Int):0<=IntKind.u64.wrap x/\IntKind.u64.wrap x<=18446744073709551615:=by
 have e:IntKind.u64.wrap x=x % 18446744073709551616:=by simp[IntKind.wrap,IntKind.bits,IntKind.signed]
 rw[e];omega
theorem FZ {k:IntKind} {v:Iv} {x:Int} (h:v.ok x):(ye k v).ok (k.wrap x):=by
 unfold ye
 split
 ·split
  ·rename_i H
   simp only[Bool.and_eq_true,decide_eq_true_eq]at H
   have A:=h.1 _ rfl
   have E:=h.2 _ rfl
   rw[IntWalk.i64_in x ⟨by omega,by omega⟩]
   exact h
  ·exact Iv.lz _
 ·split
  ·rename_i H
   simp only[Bool.and_eq_true,decide_eq_true_eq]at H
   have A:=h.1 _ rfl
   have E:=h.2 _ rfl
   rw[u64_in x (by omega) (by omega)]
   exact h
  ·have:=aac x
   exact⟨fun l M=>by cases M;omega,fun l M=>by cases M;omega⟩
 ·have:=aac x
  exact⟨fun l M=>by cases M;omega,fun l M=>by cases M;omega⟩
 ·exact Iv.lz _
def M9:IntKind->Iv->Iv
 | .i64,⟨some a,some b⟩=>if decide (0<=a)&&decide (b<9223372036854775808)then⟨some 0,some b⟩else⟨none,none⟩
 | .u64,⟨some a,some b⟩=>if decide (0<=a)&&decide (b<9223372036854775808)then⟨some 0,some b⟩else⟨none,none⟩
 | _,_=>⟨none,none⟩
theorem yx (k:IntKind) (u:k = .i64\/k = .u64) (x m:Int) (h0:0<=m) (A:m<9223372036854775808):0<=bits .and k x m/\bits .and k x m<=m:=by
 have key:∀a:BitVec 64,((a &&& BitVec.ofInt 64 m).toNat:Int)<=m:=fun a=>by
  have e:(BitVec.ofInt 64 m).toNat=m.toNat:=by
   rw[BitVec.toNat_ofInt]
   omega
  have:=Nat.and_le_right (n:=a.toNat) (m:=m.toNat)
  rw[BitVec.toNat_and,e]
  omega
 rcases u with rfl | rfl
 ·have e:bits .and .i64 x m=IntKind.i64.wrap ((BitVec.ofInt 64 x &&& BitVec.ofInt 64 m).toNat:Int):=rfl
  have:=key (BitVec.ofInt 64 x)
  rw[e,IntWalk.i64_in _ ⟨by omega,by omega⟩]
  exact⟨by omega,this⟩
 ·have e:bits .and .u64 x m=IntKind.u64.wrap ((BitVec.ofInt 64 x &&& BitVec.ofInt 64 m).toNat:Int):=rfl
  have:=key (BitVec.ofInt 64 x)
  rw[e,u64_in _ (by omega) (by omega)]
  exact⟨by omega,this⟩
theorem ag2 {k:IntKind} {v:Iv} {x m:Int} (h:v.ok m):(M9 k v).ok (bits .and k x m):=by
 unfold M9
 split
 ·split
  ·rename_i H
   simp only[Bool.and_eq_true,decide_eq_true_eq]at H
   have A:=h.1 _ rfl
   have E:=h.2 _ rfl
   have:=yx .i64 (.inl rfl) x m (by omega) (by omega)
   exact⟨fun l M=>by cases M;omega,fun l M=>by cases M;omega⟩
  ·exact Iv.lz _
 ·split
  ·rename_i H
   simp only[Bool.and_eq_true,decide_eq_true_eq]at H
   have A:=h.1 _ rfl
   have E:=h.2 _ rfl
   have:=yx .u64 (.inr rfl) x m (by omega) (by omega)
   exact⟨fun l M=>by cases M;omega,fun l M=>by cases M;omega⟩
  ·exact Iv.lz _
 ·exact Iv.lz _
def M':a7->IntKind->Iv->Iv->Iv
 | .cW,_,a,b=>BO a b
 | .fO,_,a,b=>BO a (M_ b)
 | .np,_,a,b=>F0 a b
 | .add,k,a,b=>ye k (BO a b)
 | .sub,k,a,b=>ye k (BO a (M_ b))
 | .mul,k,a,b=>ye k (F0 a b)
 | .conv,k,a,_=>ye k a
 | .and,k,_,b=>M9 k b
 | .max,_,a,b=>⟨Ha a.lo b.lo,none⟩
 | _,_,_,_=>⟨none,none⟩
theorem ag3 {o:a7} {k:IntKind} {Y v:Iv} {x y:Int} (hu:Y.ok x) (R:v.ok y):(M' o k Y v).ok (o.I k x y):=by
 unfold M'
 split<;>simp only[a7.I]
 ·exact FX hu R
 ·rw[Int.sub_eq_add_neg];exact FX hu (VI R)
 ·exact VH hu R
 ·exact FZ (FX hu R)
 ·rw[Int.sub_eq_add_neg];exact FZ (FX hu (VI R))
 ·exact FZ (VH hu R)
 ·exact FZ hu
 ·exact ag2 R
 ·refine⟨fun l M => ?_,fun _ h=>by cases h⟩
  cases a3:Y.lo with
  | none =>
   cases og:v.lo with
   | none=>rw[a3,og]at M;cases M
   | some b=>rw[a3,og]at M;cases M;have:=R.1 _ og;omega
  | some a =>
   have:=hu.1 _ a3
   cases og:v.lo with
   | none=>rw[a3,og]at M;cases M;omega
   | some b =>
    have:=R.1 _ og
    rw[a3,og]at M
    simp only[Ha,Option.some.injEq]at M
    split at M<;>omega
 ·exact Iv.lz _
def fI (B:J):U->Iv
 | .op o k a b=>(BP (.op o k a b) B).meet (M' o k (fI B a) (fI B b))
 | .ite c a b=>(BP (.ite c a b) B).meet (M8 (fI B a) (fI B b))
 | e=>BP e B
theorem gW {ρ:aa} {B:J} (u:J.ok ρ B):∀e:U,(fI B e).ok (e.I ρ)
 | .op o k a b=>by
  simp only[fI]
  refine Iv.NS (pq u) ?_
  simp only[U.I]
  exact ag3 (gW u a) (gW u b)
 | .ite c a b=>by
  simp only[fI]
  refine Iv.NS (pq u) (ag1 ?_)
  simp only[U.I]
  split
  ·exact .inl (gW u a)
  ·exact .inr (gW u b)
 | .lit _=>pq u
 | .var _=>pq u
 | .cl _ _ _=>pq u
 | .len _=>pq u
 | .cB _=>pq u
 | .fD _ _=>pq u
 | .uf _ _ _=>pq u
def EE (a b:U):BE×Bool->Option Int
 | (.lt x y,true)=>if(base x).1.beq a&&(base y).1.beq b then some ((base y).2-(base x).2-1)else none
 | (.lt x y,false)=>if(base y).1.beq a&&(base x).1.beq b then some ((base x).2-(base y).2)else none
 | _=>none
theorem ad2 {ρ:aa} {a b:U} {p:BE×Bool} {k:Int} (h:p.1.I ρ=p.2) (hd:EE a b p=some k):a.I ρ-b.I ρ<=k:=by
 unfold EE at hd
 split at hd
 ·rename_i x y
  split at hd
  ·rename_i H
   simp only[Bool.and_eq_true]at H
   cases hd
   simp only[BE.I]at h
   have h:=of_decide_eq_true h
   rw[mL ρ x,mL ρ y,U.beq_eq _ _ H.1,U.beq_eq _ _ H.2]at h
   omega
  ·cases hd
 ·rename_i x y
  split at hd
  ·rename_i H
   simp only[Bool.and_eq_true]at H
   cases hd
   simp only[BE.I]at h
   have h:=of_decide_eq_false h
   rw[mL ρ x,mL ρ y,U.beq_eq _ _ H.1,U.beq_eq _ _ H.2]at h
   omega
  ·cases hd
 ·cases hd
def uF (a b:U):J->Option Int
 | []=>none
 | p::B=>yO (EE a b p) (uF a b B)
theorem Ao {ρ:aa} {a b:U}:∀{B:J} {k:Int},J.ok ρ B->uF a b B=some k->a.I ρ-b.I ρ<=k
 | [],_,_,h=>by cases h
 | p::B,k,u,h=>by
  have A:=J.vS u
  simp only[uF]at h
  cases e1:EE a b p with
  | none =>
   rw[e1]at h
   simp only[yO]at h
   exact Ao A.2 h
  | some x =>
   have hx:=ad2 A.1 e1
   rw[e1]at h
   cases e2:uF a b B with
   | none=>rw[e2]at h;simp only[yO,Option.some.injEq]at h;omega
   | some y =>
    have hy:=Ao A.2 e2
    rw[e2]at h
    simp only[yO,Option.some.injEq]at h
    split at h<;>omega
def xd (B:J) (a b:U):Option Bool :=
 match uF (base a).1 (base b).1 B with
 | some k=>if k<(base b).2-(base a).2 then some true else(match uF (base b).1 (base a).1 B with
  | some k=>if k<=(base a).2-(base b).2 then some false else none
  | none=>none)
 | none=>match uF (base b).1 (base a).1 B with
  | some k=>if k<=(base a).2-(base b).2 then some false else none
  | none=>none
theorem xf {ρ:aa} {B:J} (u:J.ok ρ B) {a b:U} {r:Bool} (h:xd B a b=some r):(BE.lt a b).I ρ=r:=by
 simp only[BE.I]
 rw[mL ρ a,mL ρ b]
 unfold xd at h
 split at h
 ·rename_i k e1
  have:=Ao u e1
  split at h
  ·cases h;exact decide_eq_true (by omega)
  ·split at h
   ·rename_i k2 e2
    have:=Ao u e2
    split at h
    ·cases h;exact decide_eq_false (by omega)
    ·cases h
   ·cases h
 ·split at h
  ·rename_i k2 e2
   have:=Ao u e2
   split at h
   ·cases h;exact decide_eq_false (by omega)
   ·cases h
  ·cases h
def qN (v:Iv):Bool:=match v.lo,v.hi with
 | some l,some h=>decide (-9223372036854775808<=l)&&decide (h<9223372036854775808)
 | _,_=>false
theorem vp {v:Iv} {x:Int} (h:v.ok x) (hi:qN v=true):IntKind.i64.wrap x=x:=by
 unfold qN at hi
 split at hi
 ·rename_i l Y M hu
  simp only[Bool.and_eq_true,decide_eq_true_eq]at hi
  have:=h.1 l M
  have:=h.2 Y hu
  exact IntWalk.i64_in x ⟨by omega,by omega⟩
 ·cases hi
def yS:U->U->U
 | .op .cW k a (.lit c),.lit d => .op .cW k a (.lit (c+d))
 | a,b => .op .cW .i64 a b
theorem Hl (ρ:aa) (a b:U):(yS a b).I ρ=a.I ρ+b.I ρ:=by
 unfold yS
 split<;>simp only[U.I,a7.I]<;>omega
def fq (B:J):U->U
 | .op .add .i64 a b=>if qN (fI B (yS (fq B a) (fq B b)))=true then yS (fq B a) (fq B b)else .op .add .i64 a b
 | .op .sub .i64 a (.lit c)=>if qN (fI B (yS (fq B a) (.lit (-c))))=true then yS (fq B a) (.lit (-c))else .op .sub .i64 a (.lit c)
 | .op .mul .i64 a b=>if qN (fI B (mkMul (fq B a) (fq B b)))=true then mkMul (fq B a) (fq B b)else .op .mul .i64 a b
 | .op .conv .i64 a b=>if qN (fI B (fq B a))=true then fq B a else .op .conv .i64 a b
 | e=>e
theorem Ck {ρ:aa} {B:J} (u:J.ok ρ B) (e:U):(fq B e).I ρ=e.I ρ:=by
 fun_induction fq B e with
 | case1 a b h el es =>
  have A:=vp (gW u _) h
  rw[Hl,el,es]at A
  rw[Hl,el,es]
  exact A.symm
 | case2=>rfl
 | case3 a c h ih =>
  have A:=vp (gW u _) h
  rw[Hl,ih]at A
  rw[Hl,ih]
  simp only[U.I,a7.I]at A ⊢
  rw[Int.sub_eq_add_neg];exact A.symm
 | case4=>rfl
 | case5 a b h el es =>
  have A:=vp (gW u _) h
  rw[yD,el,es]at A
  rw[yD,el,es]
  exact A.symm
 | case6=>rfl
 | case7 a b h ih =>
  have A:=vp (gW u _) h
  rw[ih]at A
  rw[ih]
  exact A.symm
 | case8=>rfl
 | case9=>rfl
def FR:U->Bool
 | .op .add _ _ _=>true
 | .op .sub _ _ _=>true
 | .op .mul _ _ _=>true
 | .op .conv _ _ _=>true
 | _=>false
def OG (B:J) (a b:U):Option Bool :=
 if(FR a||FR b)=true then
  let a:=fq B a
  let b:=fq B b
  if(base a).1.beq (base b).1=true then some (decide ((base a).2<(base b).2))
  else match yf (fI B a) (fI B b)with
   | some v=>some v
   | none=>xd B a b
 else none
theorem ai5 {ρ:aa} {B:J} (u:J.ok ρ B) {a b:U} {r:Bool} (h:OG B a b=some r):(BE.lt a b).I ρ=r:=by
 unfold OG at h
 split at h
 ·simp only at h
  rw[BE.I,<-Ck u a,<-Ck u b]
  split at h
  ·rename_i hb
   cases h
   rw[mL ρ (fq B a),mL ρ (fq B b),U.beq_eq _ _ hb]
   exact decide_eq_decide.2 (by omega)
  ·split at h
   ·rename_i A;cases h;exact yg (gW u _) (gW u _) A
   ·exact xf u h
 ·cases h
def OE (B:J) (a b:U):Option Bool :=
 if(FR a||FR b)=true then
  let a:=fq B a
  let b:=fq B b
  if(base a).1.beq (base b).1=true then some (decide ((base a).2=(base b).2))
  else match FY (fI B a) (fI B b)with
   | some v=>some v
   | none=>match xd B a b,xd B b a with
    | some true,_=>some false
    | _,some true=>some false
    | some false,some false=>some true
    | _,_=>none
 else none
theorem ai4 {ρ:aa} {B:J} (u:J.ok ρ B) {a b:U} {r:Bool} (h:OE B a b=some r):(BE.eq a b).I ρ=r:=by
 unfold OE at h
 split at h
 ·simp only at h
  rw[BE.I,<-Ck u a,<-Ck u b]
  split at h
  ·rename_i hb
   cases h
   rw[mL ρ (fq B a),mL ρ (fq B b),U.beq_eq _ _ hb,Bool.eq_iff_iff,beq_iff_eq,decide_eq_true_eq]
   omega
  ·split at h
   ·rename_i A;cases h;exact VG (gW u _) (gW u _) A
   ·split at h
    ·rename_i A
     have A:=of_decide_eq_true (xf (ρ:=ρ) u A)
     cases h;exact beq_eq_false_iff_ne.2 (by omega)
    ·rename_i A _
     have A:=of_decide_eq_true (xf (ρ:=ρ) u A)
     cases h;exact beq_eq_false_iff_ne.2 (by omega)
    ·rename_i A E
     have A:=of_decide_eq_false (xf (ρ:=ρ) u A)
     have E:=of_decide_eq_false (xf (ρ:=ρ) u E)
     cases h;exact beq_iff_eq.2 (by omega)
    ·cases h
 ·cases h
def pw (c:BE):J->Option Bool
 | []=>none
 | (d,v)::r=>if d.beq c=true then some v else pw c r
theorem ot {ρ:aa} {c:BE} {v:Bool}:∀{B:J},J.ok ρ B->pw c B=some v->c.I ρ=v
 | [],_,h=>by cases h
 | (d,Y)::r,u,h=>by
  simp only[pw]at h
  split at h
  ·rename_i hb;cases h;rw[<-BE.beq_eq _ _ hb];exact(J.vS u).1
  ·exact ot (J.vS u).2 h
def zY (c:BE):Option Bool->BE
 | some v => .lit v
 | none=>c
theorem wX {ρ:aa} {c:BE} {o:Option Bool} (h:∀v,o=some v->c.I ρ=v):(zY c o).I ρ=c.I ρ:=by
 cases o with
 | none=>rfl
 | some v=>simp only[zY,BE.I];exact(h v rfl).symm
def ri:Option Bool->Option Bool->Option Bool
 | some v,_=>some v
 | none,b=>b
def red (B:J):BE->BE
 | .not a=>mkNot (red B a)
 | .and a b=>match pw (.and a b) B with
  | some v => .lit v
  | none=>mkAnd (red B a) (red B b)
 | .or a b=>match pw (.or a b) B with
  | some v => .lit v
  | none=>mkOr (red B a) (red B b)
 | .ite c a b=>match pw (.ite c a b) B with
  | some v => .lit v
  | none=>iq (red B c) (red B a) (red B b)
 | .lit b => .lit b
 | .lt a b=>zY (.lt a b) (ri (yf (fI B a) (fI B b)) (ri (pw (.lt a b) B) (ri (xd B a b) (OG B a b))))
 | .eq a b=>zY (.eq a b) (ri (FY (fI B a) (fI B b)) (ri (pw (.eq a b) B) (ri (pw (.eq b a) B) (OE B a b))))
 | c=>zY c (pw c B)
theorem c9 {ρ:aa} {B:J} (u:J.ok ρ B):∀c:BE,(red B c).I ρ=c.I ρ
 | .not a=>by simp only[red,et,BE.I,c9 u a]
 | .and a b=>by
  simp only[red]
  split
  ·rename_i v R;rw[ot u R];rfl
  ·simp only[fM,BE.I,c9 u a,c9 u b]
 | .or a b=>by
  simp only[red]
  split
  ·rename_i v R;rw[ot u R];rfl
  ·simp only[ox,BE.I,c9 u a,c9 u b]
 | .ite c a b=>by
  simp only[red]
  split
  ·rename_i v R;rw[ot u R];rfl
  ·simp only[kx,BE.I,c9 u c,c9 u a,c9 u b]
 | .lit b=>rfl
 | .lt a b=>by
  refine wX fun v R => ?_
  unfold ri at R
  split at R
  ·rename_i A;cases R;exact yg (gW u a) (gW u b) A
  ·split at R
   ·rename_i A;cases R;exact ot u A
   ·split at R
    ·rename_i A;cases R;exact xf u A
    ·exact ai5 u R
 | .eq a b=>by
  refine wX fun v R => ?_
  unfold ri at R
  split at R
  ·rename_i A;cases R;exact VG (gW u a) (gW u b) A
  ·split at R
   ·rename_i A;cases R;exact ot u A
   ·split at R
    ·rename_i A
     cases R
     have E:=ot u A
     simp only[BE.I]at E ⊢
     rw[<-E,Bool.eq_iff_iff,beq_iff_eq,beq_iff_eq]
     exact⟨Eq.symm,Eq.symm⟩
    ·exact ai4 u R
 | .var i=>wX fun v R=>ot u R
 | .cl l k j=>wX fun v R=>ot u R
 | .seq a b=>wX fun v R=>ot u R
 | .slt a b=>wX fun v R=>ot u R
def assume:BE->Bool->J->J
 | .not a,v,B=>assume a (!v) B
 | .and a b,true,B=>assume a true (assume b true B)
 | .or a b,false,B=>assume a false (assume b false B)
 | .lit _,_,B=>B
 | c,v,B=>(c,v)::B
theorem gn {ρ:aa}:∀(c:BE) (v:Bool) (B:J),c.I ρ=v->J.ok ρ B->J.ok ρ (assume c v B):=by
 intro c v B
 fun_induction assume c v B with
 | case1 a v B ih=>intro h u;simp only[BE.I]at h;exact ih (by rw[<-h];simp) u
 | case2 a b B el es=>intro h u;simp only[BE.I,Bool.and_eq_true]at h;exact es h.1 (el h.2 u)
 | case3 a b B el es=>intro h u;simp only[BE.I,Bool.or_eq_false_iff]at h;exact es h.1 (el h.2 u)
 | case4=>intro _ u;exact u
 | case5=>intro h u;exact J.av h u
inductive T (ao:Type) where
 | ret (a:ao)
 | br (c:BE) (x y:T ao)
 | cL (c:BE) (x:T ao)
 | fail (zz:List String)
noncomputable def T.aq {ao:Type} (ρ:aa):T ao->Option ao
 | .ret a=>some a
 | .br c x y=>if c.I ρ=true then x.aq ρ else y.aq ρ
 | .cL c x=>if c.I ρ=true then x.aq ρ else none
 | .fail _=>none
def T.bind {ao β:Type} (B:J) (f:J->ao->T β):T ao->T β
 | .ret a=>f B a
 | .br c x y => .br c (x.bind (assume c true B) f) (y.bind (assume c false B) f)
 | .cL c x => .cL c (x.bind (assume c true B) f)
 | .fail w => .fail w
theorem T.cQ {ao β:Type} {ρ:aa} {f:J->ao->T β} {b:β}:∀(t:T ao) {B:J},J.ok ρ B->(t.bind B f).aq ρ=some b->∃aS a,J.ok ρ aS/\t.aq ρ=some a/\(f aS a).aq ρ=some b
 | .ret a,B,u,h=>⟨B,a,u,rfl,h⟩
 | .br c x y,B,u,h=>by
  simp only[T.bind,T.aq]at h ⊢
  split at h
  ·rename_i H;rw[if_pos H];exact T.cQ x (gn c true B H u) h
  ·rename_i H;rw[if_neg H];exact T.cQ y (gn c false B (by simpa using H) u) h
 | .cL c x,B,u,h=>by
  simp only[T.bind,T.aq]at h ⊢
  split at h
  ·rename_i H;rw[if_pos H];exact T.cQ x (gn c true B H u) h
  ·cases h
 | .fail _,_,_,h=>by cases h
def T.map {ao β:Type} (f:ao->β):T ao->T β
 | .ret a => .ret (f a)
 | .br c x y => .br c (x.map f) (y.map f)
 | .cL c x => .cL c (x.map f)
 | .fail w => .fail w
theorem T.je {ao β:Type} {ρ:aa} {f:ao->β} {b:β}:∀(t:T ao),(t.map f).aq ρ=some b->∃a,t.aq ρ=some a/\b=f a
 | .ret a,h=>by cases h;exact⟨a,rfl,rfl⟩
 | .br c x y,h=>by
  simp only[T.map,T.aq]at h ⊢
  split at h
  ·rename_i H;rw[if_pos H];exact T.je x h
  ·rename_i H;rw[if_neg H];exact T.je y h
 | .cL c x,h=>by
  simp only[T.map,T.aq]at h ⊢
  split at h
  ·rename_i H;rw[if_pos H];exact T.je x h
  ·cases h
 | .fail _,h=>by cases h
def sW {ao:Type} (w:String):T ao->T ao
 | .fail [] => .fail [w]
 | t=>t
theorem P5 {ao:Type} {ρ:aa} {w:String} {t:T ao}:(sW w t).aq ρ=t.aq ρ:=by
 unfold sW;split<;>rfl
def T.zz {ao:Type}:T ao->List String
 | .ret _=>[]
 | .br _ x y=>match x.zz with
  | []=>y.zz
  | w=>w
 | .cL _ x=>x.zz
 | .fail w=>w
def part {ao:Type} (B:J) (c:BE) (x y:J->T ao):T ao :=
 match red B c with
 | .lit true=>x B
 | .lit false=>y B
 | d => .br d (x (assume d true B)) (y (assume d false B))
theorem Y_ {ao:Type} {ρ:aa} {B:J} {c:BE} {x y:J->T ao} {a:ao} (u:J.ok ρ B) (h:(part B c x y).aq ρ=some a):∃aS,J.ok ρ aS/\((c.I ρ=true/\(x aS).aq ρ=some a)\/(c.I ρ=false/\(y aS).aq ρ=some a)):=by
 have hr:=c9 u c
 unfold part at h
 split at h
 ·rename_i hd;rw[hd]at hr;exact⟨B,u,.inl ⟨hr.symm,h⟩⟩
 ·rename_i hd;rw[hd]at hr;exact⟨B,u,.inr ⟨hr.symm,h⟩⟩
 ·simp only[T.aq]at h
  split at h
  ·rename_i H;exact⟨_,gn _ true B H u,.inl ⟨by rw[<-hr];exact H,h⟩⟩
  ·rename_i H;exact⟨_,gn _ false B (by simpa using H) u,.inr ⟨by rw[<-hr];simpa using H,h⟩⟩
def want {ao:Type} (B:J) (c:BE) (x:J->T ao):T ao :=
 match red B c with
 | .lit true=>x B
 | .lit false=>(.fail [])
 | d => .cL d (x (assume d true B))
theorem cX {ao:Type} {ρ:aa} {B:J} {c:BE} {x:J->T ao} {a:ao} (u:J.ok ρ B) (h:(want B c x).aq ρ=some a):∃aS,J.ok ρ aS/\c.I ρ=true/\(x aS).aq ρ=some a:=by
 have hr:=c9 u c
 unfold want at h
 split at h
 ·rename_i hd;rw[hd]at hr;exact⟨B,u,hr.symm,h⟩
 ·cases h
 ·simp only[T.aq]at h
  split at h
  ·rename_i H;exact⟨_,gn _ true B H u,by rw[<-hr];exact H,h⟩
  ·cases h
end Go.Proofs.Xw
namespace Go.Proofs.Xw
open Go Go.Proofs.Aw
def mkAdd:U->U->U
 | .lit m,.lit n => .lit (m+n)
 | .op .fO k a (.lit m),.lit n=>if n==m then a else .op .cW .i64 (.op .fO k a (.lit m)) (.lit n)
 | .lit n,.op .fO k a (.lit m)=>if n==m then a else .op .cW .i64 (.lit n) (.op .fO k a (.lit m))
 | .op .cW j b (.lit n),.op .fO k a (.lit m)=>if n==m then .op .cW .i64 b a else .op .cW .i64 (.op .cW j b (.lit n)) (.op .fO k a (.lit m))
 | a,.lit n=>if n==0 then a else .op .cW .i64 a (.lit n)
 | .lit n,b=>if n==0 then b else .op .cW .i64 (.lit n) b
 | a,b => .op .cW .i64 a b
theorem fe (ρ:aa) (a b:U):(mkAdd a b).I ρ=a.I ρ+b.I ρ:=by
 unfold mkAdd
 split
 ·simp[U.I]
 ·split
  ·rename_i h;simp only[beq_iff_eq]at h;subst h;simp only[U.I,a7.I];omega
  ·simp[U.I,a7.I]
 ·split
  ·rename_i h;simp only[beq_iff_eq]at h;subst h;simp only[U.I,a7.I];omega
  ·simp[U.I,a7.I]
 ·split
  ·rename_i h;simp only[beq_iff_eq]at h;subst h;simp only[U.I,a7.I];omega
  ·simp[U.I,a7.I]
 ·split
  ·rename_i h;simp only[beq_iff_eq]at h;subst h;simp[U.I]
  ·simp[U.I,a7.I]
 ·split
  ·rename_i h;simp only[beq_iff_eq]at h;subst h;simp[U.I]
  ·simp[U.I,a7.I]
 ·simp[U.I,a7.I]
def mkSub:U->U->U
 | .lit m,.lit n => .lit (m-n)
 | .op .cW k a b,c=>if a.beq c=true then b else if b.beq c=true then a else .op .fO .i64 (.op .cW k a b) c
 | a,.lit n=>if n==0 then a else .op .fO .i64 a (.lit n)
 | a,b=>if a.beq b=true then .lit 0 else .op .fO .i64 a b
theorem ng (ρ:aa) (a b:U):(mkSub a b).I ρ=a.I ρ-b.I ρ:=by
 unfold mkSub
 split
 ·simp[U.I]
 ·split
  ·rename_i h;rw[<-U.beq_eq _ _ h];simp only[U.I,a7.I];omega
  ·split
   ·rename_i h;rw[<-U.beq_eq _ _ h];simp only[U.I,a7.I];omega
   ·simp[U.I,a7.I]
 ·split
  ·rename_i h;simp only[beq_iff_eq]at h;subst h;simp[U.I]
  ·simp[U.I,a7.I]
 ·split
  ·rename_i h;rw[U.beq_eq _ _ h];simp[U.I]
  ·simp[U.I,a7.I]
inductive Kd where
 | i (k:IntKind) | b | s
inductive Sc where
 | i (k:IntKind) (e:U) | b (e:BE) | s (e:TE) | f (n:U) (z:BE) | c (n:U) (z:BE) (m:U) (y:BE)
instance:Inhabited Sc:=⟨.b default⟩
noncomputable def Sc.I (ρ:aa):Sc->Value
 | .i k e => .int k (e.I ρ)
 | .b e => .bool (e.I ρ)
 | .s e => .string (e.I ρ)
 | .f n z => .float .f64 (fv (n.I ρ) (z.I ρ))
 | .c n z m y => .complex .f64 (fv (n.I ρ) (z.I ρ)) (fv (m.I ρ) (y.I ρ))
def Sc.beq:Sc->Sc->Bool
 | .i k e,.i k' e'=>ml k k'&&e.beq e'
 | .b e,.b e'=>e.beq e'
 | .s e,.s e'=>e.beq e'
 | .f n z,.f n' z'=>n.beq n'&&z.beq z'
 | .c n z m y,.c n' z' m' Dr=>n.beq n'&&(z.beq z'&&(m.beq m'&&y.beq Dr))
 | _,_=>false
theorem Sc.beq_eq {a b:Sc} (h:a.beq b=true):a=b:=by
 cases a<;>cases b<;>simp[Sc.beq]at h ⊢
 ·exact⟨om h.1,U.beq_eq _ _ h.2⟩
 ·exact BE.beq_eq _ _ h
 ·exact TE.beq_eq _ _ h
 ·exact⟨U.beq_eq _ _ h.1,BE.beq_eq _ _ h.2⟩
 ·exact⟨U.beq_eq _ _ h.1,BE.beq_eq _ _ h.2.1,U.beq_eq _ _ h.2.2.1,BE.beq_eq _ _ h.2.2.2⟩
def Gr (c:BE):Sc->Sc->Option Sc
 | .i k a,.i k' b=>if ml k k'=true then some (.i k (lr c a b))else none
 | .b a,.b b=>some (.b (iq c a b))
 | .s a,.s b=>some (.s (GA c a b))
 | .f n z,.f n' z'=>some (.f (lr c n n') (iq c z z'))
 | .c n z m y,.c n' z' m' Dr=>some (.c (lr c n n') (iq c z z') (lr c m m') (iq c y Dr))
 | _,_=>none
theorem Wf {ρ:aa} {c:BE} {a b s:Sc} (h:Gr c a b=some s):s.I ρ=if c.I ρ=true then a.I ρ else b.I ρ:=by
 cases a<;>cases b<;>simp only[Gr,reduceCtorEq,Option.some.injEq]at h
 ·split at h
  ·rename_i u
   cases h
   rw[<-om u]
   simp only[Sc.I,s6]
   split<;>rfl
  ·cases h
 ·subst h;simp only[Sc.I,kx];split<;>rfl
 ·subst h;simp only[Sc.I,Wn];split<;>rfl
 ·subst h;simp only[Sc.I,s6,kx];split<;>rfl
 ·subst h;simp only[Sc.I,s6,kx];split<;>rfl
noncomputable def ca (ρ:aa) (r:List Sc):List AV:=r.map fun s => .sc (s.I ρ)
def nf (c:BE):List Sc->List Sc->Option (List Sc)
 | [],[]=>some []
 | a::aG,b::bs=>match Gr c a b,nf c aG bs with
  | some s,some r=>some (s::r)
  | _,_=>none
 | _,_=>none
theorem vA {ρ:aa} {c:BE}:∀{a b s:List Sc},nf c a b=some s->ca ρ s=if c.I ρ=true then ca ρ a else ca ρ b
 | [],[],s,h=>by simp only[nf,Option.some.injEq]at h;subst h;simp
 | a::aG,b::bs,s,h=>by
  simp only[nf]at h
  split at h
  ·rename_i x r A E
   cases h
   have e1:=Wf (ρ:=ρ) A
   have e2:=vA (ρ:=ρ) E
   simp only[ca,List.map_cons]at e2 ⊢
   rw[e1,e2]
   split<;>rfl
  ·cases h
 | [],_::_,_,h=>by simp[nf]at h
 | _::_,[],_,h=>by simp[nf]at h
inductive RL where
 | var (l:Nat) (ks:List Kd)
 | one (r:List Sc)
 | app (n:U) (a b:RL)
 | drop (n:U) (a:RL)
 | eK (i:U) (r:List Sc) (a:RL)
 | ite (c:BE) (a b:RL)
def bH (ρ:aa) (l:Nat):Nat->List Kd->Nat->List AV
 | _,[],_=>[]
 | k,.i K::ks,j => .sc (.int K (ρ.ci l k j))::bH ρ l (k+1) ks j
 | k,.b::ks,j => .sc (.bool (ρ.cb l k j))::bH ρ l (k+1) ks j
 | k,.s::ks,j => .sc (.string (ρ.cs l k j))::bH ρ l (k+1) ks j
noncomputable def RL.row (ρ:aa):RL->Int->List AV
 | .var l ks,j=>bH ρ l 0 ks j.toNat
 | .one r,_=>ca ρ r
 | .app n a b,j=>if j<n.I ρ then a.row ρ j else b.row ρ (j-n.I ρ)
 | .drop n a,j=>a.row ρ (j+n.I ρ)
 | .eK i r a,j=>if j=i.I ρ then ca ρ r else a.row ρ j
 | .ite c a b,j=>if c.I ρ=true then a.row ρ j else b.row ρ j
def qh (l:Nat) (j:U):Nat->List Kd->List Sc
 | _,[]=>[]
 | k,.i K::ks => .i K (.cl l k j)::qh l j (k+1) ks
 | k,.b::ks => .b (.cl l k j)::qh l j (k+1) ks
 | k,.s::ks => .s (.cl l k j)::qh l j (k+1) ks
theorem Aa (ρ:aa) (l:Nat) (j:U):∀(k:Nat) (ks:List Kd),ca ρ (qh l j k ks)=bH ρ l k ks (j.I ρ).toNat
 | _,[]=>rfl
 | k,.i K::ks=>by simp only[qh,bH,ca,List.map_cons,Sc.I,U.I];exact congrArg _ (Aa ρ l j (k+1) ks)
 | k,.b::ks=>by simp only[qh,bH,ca,List.map_cons,Sc.I,BE.I];exact congrArg _ (Aa ρ l j (k+1) ks)
 | k,.s::ks=>by simp only[qh,bH,ca,List.map_cons,Sc.I,TE.I];exact congrArg _ (Aa ρ l j (k+1) ks)
def RL.get:RL->U->Option (List Sc)
 | .var l ks,j=>some (qh l j 0 ks)
 | .one r,_=>some r
 | .app n a b,j=>match mkLt j n with
  | .lit true=>a.get j
  | .lit false=>b.get (mkSub j n)
  | c=>match a.get j,b.get (mkSub j n)with
   | some x,some y=>nf c x y
   | _,_=>none
 | .drop n a,j=>a.get (mkAdd j n)
 | .eK i r a,j=>match mkEq j i with
  | .lit true=>some r
  | .lit false=>a.get j
  | c=>match a.get j with
   | some y=>nf c r y
   | none=>none
 | .ite c a b,j=>match a.get j,b.get j with
  | some x,some y=>nf c x y
  | _,_=>none
theorem RL.o_ {ρ:aa}:∀{l:RL} {j:U} {r:List Sc},l.get j=some r->ca ρ r=l.row ρ (j.I ρ)
 | .var l ks,j,r,h=>by
  simp only[RL.get,Option.some.injEq]at h
  subst h
  exact Aa ρ l j 0 ks
 | .one s,j,r,h=>by
  simp only[RL.get,Option.some.injEq]at h
  subst h;rfl
 | .app n a b,j,r,h=>by
  simp only[RL.get]at h
  have H:=gY ρ j n
  simp only[RL.row]
  split at h
  ·rename_i hd
   rw[hd]at H
   have:=of_decide_eq_true (H.symm)
   rw[if_pos this]
   exact RL.o_ h
  ·rename_i hd
   rw[hd]at H
   have:=of_decide_eq_false (H.symm)
   rw[if_neg this,<-ng]
   exact RL.o_ h
  ·split at h
   ·rename_i x y A E
    rw[vA h,RL.o_ A,RL.o_ E,ng,H]
    by_cases W:U.I ρ j<U.I ρ n
    ·rw[if_pos (decide_eq_true W),if_pos W]
    ·rw[if_neg (by simpa using W),if_neg W]
   ·cases h
 | .drop n a,j,r,h=>by
  simp only[RL.get]at h
  simp only[RL.row]
  rw[<-fe]
  exact RL.o_ h
 | .eK i q a,j,r,h=>by
  simp only[RL.get]at h
  have H:=eQ ρ j i
  simp only[RL.row]
  split at h
  ·rename_i hd
   rw[hd]at H
   cases h
   rw[if_pos (by simpa [BE.I]using H.symm)]
  ·rename_i hd
   rw[hd]at H
   rw[if_neg (by simpa [BE.I]using H.symm)]
   exact RL.o_ h
  ·split at h
   ·rename_i y E
    rw[vA h,RL.o_ E,H]
    by_cases W:U.I ρ j=U.I ρ i
    ·rw[if_pos (by simpa using W),if_pos W]
    ·rw[if_neg (by simpa using W),if_neg W]
   ·cases h
 | .ite c a b,j,r,h=>by
  simp only[RL.get]at h
  simp only[RL.row]
  split at h
  ·rename_i x y A E
   rw[vA h,RL.o_ A,RL.o_ E]
  ·cases h
def RL.wd (z:Nat):RL->Bool
 | .var _ ks=>Nat.beq ks.length z
 | .one r=>Nat.beq r.length z
 | .app _ a b=>a.wd z&&b.wd z
 | .drop _ a=>a.wd z
 | .eK _ r a=>Nat.beq r.length z&&a.wd z
 | .ite _ a b=>a.wd z&&b.wd z
theorem Y2 (ρ:aa) (r:List Sc):(ca ρ r).length=r.length:=by simp[ca]
theorem Er (ρ:aa) (l j:Nat):∀(ks:List Kd) (k:Nat),(bH ρ l k ks j).length=ks.length
 | [],_=>rfl
 | .i _::ks,k=>by simp only[bH,List.length_cons,Er ρ l j ks (k+1)]
 | .b::ks,k=>by simp only[bH,List.length_cons,Er ρ l j ks (k+1)]
 | .s::ks,k=>by simp only[bH,List.length_cons,Er ρ l j ks (k+1)]
theorem RL.tS {ρ:aa} {z:Nat}:∀{l:RL} {j:Int},l.wd z=true->(l.row ρ j).length=z
 | .var l ks,j,h=>by simp only[RL.row,Er];exact Nat.eq_of_beq_eq_true h
 | .one r,j,h=>by simp only[RL.row,Y2];exact Nat.eq_of_beq_eq_true h
 | .app n a b,j,h=>by
  simp only[RL.wd,Bool.and_eq_true]at h
  simp only[RL.row]
  split
  ·exact RL.tS h.1
  ·exact RL.tS h.2
 | .drop n a,j,h=>by simp only[RL.row];exact RL.tS (l:=a) h
 | .eK i r a,j,h=>by
  simp only[RL.wd,Bool.and_eq_true]at h
  simp only[RL.row]
  split
  ·rw[Y2];exact Nat.eq_of_beq_eq_true h.1
  ·exact RL.tS h.2
 | .ite c a b,j,h=>by
  simp only[RL.wd,Bool.and_eq_true]at h
  simp only[RL.row]
  split
  ·exact RL.tS h.1
  ·exact RL.tS h.2
def yl:Kd->Kd->Bool
 | .i k,.i k'=>ml k k'
 | .b,.b=>true
 | .s,.s=>true
 | _,_=>false
theorem F3 {x y:Kd} (h:yl x y=true):x=y:=by cases x<;>cases y<;>simp[yl]at h ⊢;exact om h
def jB {ao:Type} (f:ao->ao->Bool):List ao->List ao->Bool
 | [],[]=>true
 | a::aG,b::bs=>f a b&&jB f aG bs
 | _,_=>false
theorem mn {ao:Type} {f:ao->ao->Bool} (hf:∀a b,f a b=true->a=b):∀{aG bs:List ao},jB f aG bs=true->aG=bs
 | [],[],_=>rfl
 | a::aG,b::bs,h=>by
  simp only[jB,Bool.and_eq_true]at h
  rw[hf _ _ h.1,mn hf h.2]
 | [],_::_,h=>by simp[jB]at h
 | _::_,[],h=>by simp[jB]at h
def RL.beq:RL->RL->Bool
 | .var l ks,.var l' li=>Nat.beq l l'&&jB yl ks li
 | .one r,.one r'=>jB Sc.beq r r'
 | .app n a b,.app n' bz dn=>n.beq n'&&(a.beq bz&&b.beq dn)
 | .drop n a,.drop n' bz=>n.beq n'&&a.beq bz
 | .eK i r a,.eK i' r' bz=>i.beq i'&&(jB Sc.beq r r'&&a.beq bz)
 | .ite c a b,.ite dx bz dn=>c.beq dx&&(a.beq bz&&b.beq dn)
 | _,_=>false
theorem RL.beq_eq:∀{a b:RL},a.beq b=true->a=b
 | .var l ks,b,h=>by
  cases b<;>simp[RL.beq]at h ⊢
  exact⟨h.1,mn (fun _ _=>F3) h.2⟩
 | .one r,b,h=>by
  cases b<;>simp[RL.beq]at h ⊢
  exact mn (fun _ _=>Sc.beq_eq) h
 | .app n x y,b,h=>by
  cases b<;>simp[RL.beq]at h ⊢
  exact⟨U.beq_eq _ _ h.1,RL.beq_eq h.2.1,RL.beq_eq h.2.2⟩
 | .drop n x,b,h=>by
  cases b<;>simp[RL.beq]at h ⊢
  exact⟨U.beq_eq _ _ h.1,RL.beq_eq h.2⟩
 | .eK i r x,b,h=>by
  cases b<;>simp[RL.beq]at h ⊢
  exact⟨U.beq_eq _ _ h.1,mn (fun _ _=>Sc.beq_eq) h.2.1,RL.beq_eq h.2.2⟩
 | .ite c x y,b,h=>by
  cases b<;>simp[RL.beq]at h ⊢
  exact⟨BE.beq_eq _ _ h.1,RL.beq_eq h.2.1,RL.beq_eq h.2.2⟩
def yE (c:BE) (a b:RL):RL:=if a.beq b=true then a else .ite c a b
theorem Wo (ρ:aa) (c:BE) (a b:RL) (j:Int):(yE c a b).row ρ j=if c.I ρ=true then a.row ρ j else b.row ρ j:=by
 unfold yE
 split
 ·rename_i h;rw[RL.beq_eq h,ite_self]
 ·rfl
inductive Nk where
 | f (k:Kd)
 | r (z S:Nat) (ks:List Kd)
def rZ (ρ:aa) (l k:Nat) (j:Nat):Kd->AV
 | .i K => .sc (.int K (ρ.ci l k j))
 | .b => .sc (.bool (ρ.cb l k j))
 | .s => .sc (.string (ρ.cs l k j))
def oJ (ρ:aa) (S:Nat) (ks:List Kd) (off n:Int):List (List AV):=(List.range n.toNat).map fun(e:Nat)=>bH ρ S 0 ks ((e:Int)+off).toNat
def dL (ρ:aa) (l:Nat):Nat->List Nk->Nat->List AV
 | _,[],_=>[]
 | k,.f kd::ks,j=>rZ ρ l k j kd::dL ρ l (k+1) ks j
 | k,.r z S kk::ks,j => .ro z (oJ ρ S kk (ρ.ci l k j) (ρ.ci l (k+1000) j)) false::dL ρ l (k+1) ks j
theorem JW (ρ:aa) (l j:Nat):∀(ks:List Nk) (k:Nat),(dL ρ l k ks j).length=ks.length
 | [],_=>rfl
 | .f _::ks,k=>by simp only[dL,List.length_cons,JW ρ l j ks (k+1)]
 | .r _ _ _::ks,k=>by simp only[dL,List.length_cons,JW ρ l j ks (k+1)]
def GJ:Nk->Nk->Bool
 | .f x,.f y=>yl x y
 | .r z S ks,.r z' S' li=>Nat.beq z z'&&(Nat.beq S S'&&jB yl ks li)
 | _,_=>false
theorem WI {x y:Nk} (h:GJ x y=true):x=y:=by
 cases x<;>cases y<;>simp only[GJ,Bool.false_eq_true,Bool.and_eq_true]at h
 ·rw[F3 h]
 ·rw[Nat.eq_of_beq_eq_true h.1,Nat.eq_of_beq_eq_true h.2.1,mn (fun _ _=>F3) h.2.2]
inductive X where
 | top
 | k (v:Value)
 | sc (s:Sc)
 | agg (cs:List X)
 | tup (vs:List X)
 | ptr (n:Nm) (aG:List (BE×Nat)) (d:Nat)
 | sl (n:Nm) (z off len:Nat) (own:Bool)
 | ip (cs:List X) (aG:List (BE×Nat)) (d:Nat)
 | ro (z:Nat) (D:List (List X)) (full:Bool)
 | rl (z:Nat) (n:U) (l:RL) (full:Bool)
 | fn (f:Fn) (first cap:List X)
 | gd (c:BE) (x:X)
 | rows (z:Nat) (n:U) (l:RL)
 | slv (n:Nm) (z:Nat) (off len:U) (own:Bool)
 | dv (n:Nm) (z:Nat) (j:U) (o:Nat)
 | rn (z:Nat) (n:U) (l:Nat) (ks:List Nk) (full:Bool)
 | tk (z:Nat) (m:U) (t:Nat) (D:List (List X))
 | tq (z:Nat) (m:U) (t:Nat) (D:List (List X)) (full:Bool)
 | cJ (t k:Nat) (j:U)
instance:Inhabited X:=⟨.top⟩
noncomputable def choose (ρ:aa):List (BE×Nat)->Nat->Nat
 | [],d=>d
 | (c,o)::r,d=>if c.I ρ=true then o else choose ρ r d
noncomputable def aV (ρ:aa) (n:U) (l:RL):List (List AV):=(List.range (n.I ρ).toNat).map fun(j:Nat)=>l.row ρ j
noncomputable def fS (ρ:aa) (n:U) (l:Nat) (ks:List Nk):List (List AV):=(List.range (n.I ρ).toNat).map fun(j:Nat)=>dL ρ l 0 ks j
noncomputable def bC (ρ:aa) (z:Nat) (m:U) (t:Nat):List (List AV):=(List.range (m.I ρ).toNat).map fun(j:Nat)=>(List.range z).map fun k=>(ρ.ct t k j).1
mutual
noncomputable def X.I (ρ:aa):X->AV
 | .top => .top
 | .k v => .sc v
 | .sc s => .sc (s.I ρ)
 | .agg cs => .agg (X.af ρ cs)
 | .tup vs => .tup (X.af ρ vs)
 | .ptr n aG d => .ptr n (choose ρ aG d)
 | .sl n z off len own => .sl n z off len own
 | .ip cs aG d => .ip (X.af ρ cs) (choose ρ aG d)
 | .ro z D full => .ro z (X.aX ρ D) full
 | .rl z n l full => .ro z (aV ρ n l) full
 | .fn f xs ys => .fn f (X.af ρ xs) (X.af ρ ys)
 | .gd c x=>if c.I ρ=true then x.I ρ else .sc undef
 | .rows _ _ _ => .top
 | .slv n z off len own => .sl n z ((off.I ρ).toNat*z) (len.I ρ).toNat own
 | .dv n z j o => .ptr n ((j.I ρ).toNat*z+o)
 | .rn z n l ks full => .ro z (fS ρ n l ks) full
 | .tk _ _ _ _ => .top
 | .tq z m t D full => .ro z (bC ρ z m t++X.aX ρ D) full
 | .cJ t o j=>(ρ.ct t o (j.I ρ).toNat).1
noncomputable def X.af (ρ:aa):List X->List AV
 | []=>[]
 | x::xs=>x.I ρ::X.af ρ xs
noncomputable def X.aX (ρ:aa):List (List X)->List (List AV)
 | []=>[]
 | e::D=>X.af ρ e::X.aX ρ D
end
theorem X.l5 (ρ:aa):∀l,X.af ρ l=l.map (X.I ρ)
 | []=>rfl
 | x::xs=>by simp only[X.af,List.map_cons,X.l5 ρ xs]
theorem X.eg (ρ:aa):∀l,X.aX ρ l=l.map (X.af ρ)
 | []=>rfl
 | x::xs=>by simp only[X.aX,List.map_cons,X.eg ρ xs]
theorem X.f_ (ρ:aa) (l:List X):(X.af ρ l).length=l.length:=by rw[X.l5];simp
theorem X.gq (ρ:aa) (l m:List X):X.af ρ (l++m)=X.af ρ l++X.af ρ m:=by simp[X.l5]
theorem X.Ks (ρ:aa) (l:List X) (n:Nat):X.af ρ (l.take n)=(X.af ρ l).take n:=by simp[X.l5]
theorem X.xa (ρ:aa) (l:List X) (n:Nat):X.af ρ (l.drop n)=(X.af ρ l).drop n:=by simp[X.l5]
theorem X.r9 (ρ:aa) (l:List X) (i:Nat):(X.af ρ l)[i]? = (l[i]?).map (X.I ρ):=by simp[X.l5]
theorem X.w_ (ρ:aa) (l:List (List X)) (i:Nat):(X.aX ρ l)[i]? = (l[i]?).map (X.af ρ):=by simp[X.eg]
def Co (r:List Sc):List X:=r.map .sc
theorem OJ (ρ:aa) (r:List Sc):X.af ρ (Co r)=ca ρ r:=by simp[X.l5,Co,ca,X.I]
def adv (l:Nat) (e:U) (k:Nat):Kd->X
 | .i K => .sc (.i K (.cl l k e))
 | .b => .sc (.b (.cl l k e))
 | .s => .sc (.s (.cl l k e))
def ux (l:Nat) (e:U):Nat->List Nk->List X
 | _,[]=>[]
 | k,.f kd::ks=>adv l e k kd::ux l e (k+1) ks
 | k,.r z S kk::ks => .rl z (.cl l (k+1000) e) (.drop (.cl l k e) (.var S kk)) false::ux l e (k+1) ks
theorem JV (ρ:aa) (l:Nat) (e:U):∀(ks:List Nk) (k:Nat),X.af ρ (ux l e k ks)=dL ρ l k ks (e.I ρ).toNat
 | [],_=>rfl
 | .f kd::ks,k=>by
  simp only[ux,dL,X.af,JV ρ l e ks (k+1)]
  congr 1
  cases kd<;>rfl
 | .r z S kk::ks,k=>by
  simp only[ux,dL,X.af,JV ρ l e ks (k+1)]
  rfl
def whole (w:Nat):Int:=match(Ieee.double.read w).toInt .zero with
 | some n=>n
 | none=>0
def mz:Value->X
 | .int k i => .sc (.i k (.lit i))
 | .bool b => .sc (.b (.lit b))
 | .string s => .sc (.s (.lit s))
 | .float .f64 w=>if Nat.beq (fv (whole w) false) w=true then .sc (.f (.lit (whole w)) (.lit false))else .k (.float .f64 w)
 | .complex .f64 w Y=>if(Nat.beq (fv (whole w) false) w&&Nat.beq (fv (whole Y) false) Y)=true then .sc (.c (.lit (whole w)) (.lit false) (.lit (whole Y)) (.lit false))else .k (.complex .f64 w Y)
 | v => .k v
theorem W3 (ρ:aa) (v:Value):(mz v).I ρ = .sc v:=by
 unfold mz
 split
 ·rfl
 ·rfl
 ·rfl
 ·split
  ·rename_i h
   simp only[X.I,Sc.I,U.I,BE.I,Nat.eq_of_beq_eq_true h]
  ·rfl
 ·split
  ·rename_i h
   rw[Bool.and_eq_true]at h
   simp only[X.I,Sc.I,U.I,BE.I,Nat.eq_of_beq_eq_true h.1,Nat.eq_of_beq_eq_true h.2]
  ·rfl
 ·rfl
def zu:Value->Value->Bool
 | .pointer none,.pointer none=>true
 | .slice none a b,.slice none bz dn=>Nat.beq a bz&&Nat.beq b dn
 | .nilFunc,.nilFunc=>true
 | .nilIface,.nilIface=>true
 | .tuple ⟨[]⟩,.tuple ⟨[]⟩=>true
 | _,_=>false
theorem QQ {a b:Value} (h:zu a b=true):a=b:=by
 unfold zu at h
 split at h
 ·rfl
 ·simp at h;rw[h.1,h.2]
 ·rfl
 ·rfl
 ·rfl
 ·cases h
def cN (a b:Nm):Bool:=Nat.beq a.1 b.1&&Nat.beq a.2 b.2
theorem eu {a b:Nm} (h:cN a b=true):a=b:=by
 simp only[cN,Bool.and_eq_true]at h
 exact Prod.ext (Nat.eq_of_beq_eq_true h.1) (Nat.eq_of_beq_eq_true h.2)
def wY (a b:BE×Nat):Bool:=a.1.beq b.1&&Nat.beq a.2 b.2
theorem z0 (a b:BE×Nat) (h:wY a b=true):a=b:=by
 simp only[wY,Bool.and_eq_true]at h
 exact Prod.ext (BE.beq_eq _ _ h.1) (Nat.eq_of_beq_eq_true h.2)
def E7:Fn->Fn->Bool
 | .func a,.func b=>Nat.beq a b
 | _,_=>false
theorem T9 {a b:Fn} (h:E7 a b=true):a=b:=by
 unfold E7 at h
 split at h
 ·simp at h;rw[h]
 ·cases h
mutual
def X.beq:X->X->Bool
 | .top,.top=>true
 | .k v,.k w=>zu v w
 | .sc s,.sc s'=>s.beq s'
 | .agg cs,.agg bn=>X.fh cs bn
 | .tup cs,.tup bn=>X.fh cs bn
 | .ptr n aG d,.ptr n' t6 fE=>cN n n'&&(Nat.beq d fE&&jB wY aG t6)
 | .sl n z o l w,.sl n' z' o' l' w'=>cN n n'&&(Nat.beq z z'&&(Nat.beq o o'&&(Nat.beq l l'&&w==w')))
 | .ip cs aG d,.ip bn t6 fE=>Nat.beq d fE&&(jB wY aG t6&&X.fh cs bn)
 | .ro z D f,.ro z' bi f'=>Nat.beq z z'&&(f==f'&&X.nT D bi)
 | .rl z n l f,.rl z' n' l' f'=>Nat.beq z z'&&(f==f'&&(n.beq n'&&l.beq l'))
 | .fn f xs ys,.fn f' v6 wl=>E7 f f'&&(X.fh xs v6&&X.fh ys wl)
 | .gd c x,.gd dx Q5=>c.beq dx&&x.beq Q5
 | .rows z n l,.rows z' n' l'=>Nat.beq z z'&&(n.beq n'&&l.beq l')
 | .slv n z o l w,.slv n' z' o' l' w'=>cN n n'&&(Nat.beq z z'&&(o.beq o'&&(l.beq l'&&w==w')))
 | .dv n z j o,.dv n' z' j' o'=>cN n n'&&(Nat.beq z z'&&(j.beq j'&&Nat.beq o o'))
 | .rn z n l ks f,.rn z' n' l' li f'=>Nat.beq z z'&&(f==f'&&(n.beq n'&&(Nat.beq l l'&&jB GJ ks li)))
 | .tk z m t D,.tk z' m' t' bi=>Nat.beq z z'&&(m.beq m'&&(Nat.beq t t'&&X.nT D bi))
 | .tq z m t D f,.tq z' m' t' bi f'=>Nat.beq z z'&&(f==f'&&(m.beq m'&&(Nat.beq t t'&&X.nT D bi)))
 | .cJ t o j,.cJ t' o' j'=>Nat.beq t t'&&(Nat.beq o o'&&j.beq j')
 | _,_=>false
def X.fh:List X->List X->Bool
 | [],[]=>true
 | a::aG,b::bs=>a.beq b&&X.fh aG bs
 | _,_=>false
def X.nT:List (List X)->List (List X)->Bool
 | [],[]=>true
 | a::aG,b::bs=>X.fh a b&&X.nT aG bs
 | _,_=>false
end
mutual
theorem X.beq_eq:∀(a b:X),a.beq b=true->a=b
 | .top,b,h=>by cases b<;>simp[X.beq]at h ⊢
 | .k v,b,h=>by cases b<;>simp[X.beq]at h ⊢;exact QQ h
 | .sc v,b,h=>by cases b<;>simp[X.beq]at h ⊢;exact Sc.beq_eq h
 | .agg cs,b,h=>by cases b<;>simp[X.beq]at h ⊢;exact X.gO _ _ h
 | .tup cs,b,h=>by cases b<;>simp[X.beq]at h ⊢;exact X.gO _ _ h
 | .ptr n aG d,b,h=>by
  cases b<;>simp[X.beq]at h ⊢
  exact⟨eu h.1,mn z0 h.2.2,h.2.1⟩
 | .sl n z o l w,b,h=>by
  cases b<;>simp[X.beq]at h ⊢
  exact⟨eu h.1,h.2.1,h.2.2.1,h.2.2.2.1,h.2.2.2.2⟩
 | .ip cs aG d,b,h=>by
  cases b<;>simp[X.beq]at h ⊢
  exact⟨X.gO _ _ h.2.2,mn z0 h.2.1,h.1⟩
 | .ro z D f,b,h=>by
  cases b<;>simp[X.beq]at h ⊢
  exact⟨h.1,X.uv _ _ h.2.2,h.2.1⟩
 | .rl z n l f,b,h=>by
  cases b<;>simp[X.beq]at h ⊢
  exact⟨h.1,U.beq_eq _ _ h.2.2.1,RL.beq_eq h.2.2.2,h.2.1⟩
 | .fn f xs ys,b,h=>by
  cases b<;>simp[X.beq]at h ⊢
  exact⟨T9 h.1,X.gO _ _ h.2.1,X.gO _ _ h.2.2⟩
 | .gd c x,b,h=>by
  cases b<;>simp[X.beq]at h ⊢
  exact⟨BE.beq_eq _ _ h.1,X.beq_eq _ _ h.2⟩
 | .rows z n l,b,h=>by
  cases b<;>simp[X.beq]at h ⊢
  exact⟨h.1,U.beq_eq _ _ h.2.1,RL.beq_eq h.2.2⟩
 | .slv n z o l w,b,h=>by
  cases b<;>simp[X.beq]at h ⊢
  exact⟨eu h.1,h.2.1,U.beq_eq _ _ h.2.2.1,U.beq_eq _ _ h.2.2.2.1,h.2.2.2.2⟩
 | .dv n z j o,b,h=>by
  cases b<;>simp[X.beq]at h ⊢
  exact⟨eu h.1,h.2.1,U.beq_eq _ _ h.2.2.1,h.2.2.2⟩
 | .rn z n l ks f,b,h=>by
  cases b<;>simp[X.beq]at h ⊢
  exact⟨h.1,U.beq_eq _ _ h.2.2.1,h.2.2.2.1,mn (fun _ _=>WI) h.2.2.2.2,h.2.1⟩
 | .tk z m t D,b,h=>by
  cases b<;>simp[X.beq]at h ⊢
  exact⟨h.1,U.beq_eq _ _ h.2.1,h.2.2.1,X.uv _ _ h.2.2.2⟩
 | .tq z m t D f,b,h=>by
  cases b<;>simp[X.beq]at h ⊢
  exact⟨h.1,U.beq_eq _ _ h.2.2.1,h.2.2.2.1,X.uv _ _ h.2.2.2.2,h.2.1⟩
 | .cJ t o j,b,h=>by
  cases b<;>simp[X.beq]at h ⊢
  exact⟨h.1,h.2.1,U.beq_eq _ _ h.2.2⟩
theorem X.gO:∀(a b:List X),X.fh a b=true->a=b
 | [],[],_=>rfl
 | a::aG,b::bs,h=>by
  simp only[X.fh,Bool.and_eq_true]at h
  rw[X.beq_eq a b h.1,X.gO aG bs h.2]
 | [],_::_,h=>by simp[X.fh]at h
 | _::_,[],h=>by simp[X.fh]at h
theorem X.uv:∀(a b:List (List X)),X.nT a b=true->a=b
 | [],[],_=>rfl
 | a::aG,b::bs,h=>by
  simp only[X.nT,Bool.and_eq_true]at h
  rw[X.gO a b h.1,X.uv aG bs h.2]
 | [],_::_,h=>by simp[X.nT]at h
 | _::_,[],h=>by simp[X.nT]at h
end
mutual
def X.en (c:BE):X->X->Option X
 | .sc a,.sc b=>match Gr c a b with
  | some s=>some (.sc s)
  | none=>none
 | .agg cs,.agg ds=>match X.pz c cs ds with
  | some D=>some (.agg D)
  | none=>none
 | .tup cs,.tup ds=>match X.pz c cs ds with
  | some D=>some (.tup D)
  | none=>none
 | .slv n z o l w,.slv n' z' o' l' w'=>if(cN n n'&&(Nat.beq z z'&&w==w'))=true then some (.slv n z (lr c o o') (lr c l l') w)else none
 | .rl z n l f,.rl z' n' l' f'=>if(Nat.beq z z'&&f==f')=true then some (.rl z (lr c n n') (yE c l l') f)else none
 | x,y=>if x.beq y=true then some x else none
def X.pz (c:BE):List X->List X->Option (List X)
 | [],[]=>some []
 | a::aG,b::bs=>match X.en c a b with
  | some s=>match X.pz c aG bs with
   | some r=>some (s::r)
   | none=>none
  | none=>none
 | _,_=>none
end
theorem hP {ρ:aa} {c:BE} {x y z:X} (h:(if x.beq y=true then some x else none)=some z):z.I ρ=if c.I ρ=true then x.I ρ else y.I ρ:=by
 split at h
 ·rename_i hb;cases h;rw[<-X.beq_eq _ _ hb];simp
 ·cases h
mutual
theorem X.Ca {ρ:aa} {c:BE}:∀(x y z:X),X.en c x y=some z->z.I ρ=if c.I ρ=true then x.I ρ else y.I ρ
 | .sc a,y,z,h=>by
  cases y
  case sc b =>
   simp only[X.en]at h
   split at h
   ·rename_i s hs
    cases h
    simp only[X.I,Wf (ρ:=ρ) hs]
    split<;>rfl
   ·cases h
  all_goals exact hP (by simpa only[X.en]using h)
 | .agg cs,y,z,h=>by
  cases y
  case agg ds =>
   simp only[X.en]at h
   split at h
   ·rename_i s hs
    cases h
    simp only[X.I,X.B_ cs ds s hs]
    split<;>rfl
   ·cases h
  all_goals exact hP (by simpa only[X.en]using h)
 | .tup cs,y,z,h=>by
  cases y
  case tup ds =>
   simp only[X.en]at h
   split at h
   ·rename_i s hs
    cases h
    simp only[X.I,X.B_ cs ds s hs]
    split<;>rfl
   ·cases h
  all_goals exact hP (by simpa only[X.en]using h)
 | .top,y,z,h=>hP (by simpa only[X.en]using h)
 | .k _,y,z,h=>hP (by simpa only[X.en]using h)
 | .ptr _ _ _,y,z,h=>hP (by simpa only[X.en]using h)
 | .sl _ _ _ _ _,y,z,h=>hP (by simpa only[X.en]using h)
 | .ip _ _ _,y,z,h=>hP (by simpa only[X.en]using h)
 | .ro _ _ _,y,z,h=>hP (by simpa only[X.en]using h)
 | .rl z n l f,y,q,h=>by
  cases y
  case rl z' n' l' f' =>
   simp only[X.en]at h
   split at h
   ·rename_i H
    simp only[Bool.and_eq_true,beq_iff_eq]at H
    have hz:=Nat.eq_of_beq_eq_true H.1
    have hf:=H.2
    subst hz hf
    cases h
    simp only[X.I]
    have:aV ρ (lr c n n') (yE c l l')=if c.I ρ=true then aV ρ n l else aV ρ n' l':=by
     unfold aV
     rw[s6]
     simp only[Wo]
     split<;>rfl
    rw[this]
    split<;>rfl
   ·cases h
  all_goals exact hP (by simpa only[X.en]using h)
 | .slv n z o l w,y,q,h=>by
  cases y
  case slv n' z' o' l' w' =>
   simp only[X.en]at h
   split at h
   ·rename_i H
    simp only[Bool.and_eq_true,beq_iff_eq]at H
    have hn:=eu H.1
    have hz:=Nat.eq_of_beq_eq_true H.2.1
    have hw:=H.2.2
    subst hn hz hw
    cases h
    simp only[X.I,s6]
    split<;>rfl
   ·cases h
  all_goals exact hP (by simpa only[X.en]using h)
 | .rows _ _ _,y,z,h=>hP (by simpa only[X.en]using h)
 | .dv _ _ _ _,y,z,h=>hP (by simpa only[X.en]using h)
 | .rn _ _ _ _ _,y,z,h=>hP (by simpa only[X.en]using h)
 | .tk _ _ _ _,y,z,h=>hP (by simpa only[X.en]using h)
 | .tq _ _ _ _ _,y,z,h=>hP (by simpa only[X.en]using h)
 | .cJ _ _ _,y,z,h=>hP (by simpa only[X.en]using h)
 | .fn _ _ _,y,z,h=>hP (by simpa only[X.en]using h)
 | .gd _ _,y,z,h=>hP (by simpa only[X.en]using h)
theorem X.B_ {ρ:aa} {c:BE}:∀(x y z:List X),X.pz c x y=some z->X.af ρ z=if c.I ρ=true then X.af ρ x else X.af ρ y
 | [],[],z,h=>by simp only[X.pz,Option.some.injEq]at h;subst h;simp
 | a::aG,b::bs,z,h=>by
  simp only[X.pz]at h
  split at h
  ·rename_i s hs
   split at h
   ·rename_i r hr
    cases h
    simp only[X.af,X.Ca a b s hs,X.B_ aG bs r hr]
    split<;>rfl
   ·cases h
  ·cases h
 | [],_::_,_,h=>by simp[X.pz]at h
 | _::_,[],_,h=>by simp[X.pz]at h
end
end Go.Proofs.Xw
namespace Go.Proofs.Xw
open Go Go.Proofs.Aw
structure TI where
 cells:Nat
 agg:Option Bool
 zero:Option (List Value)
 arr:Option (Nat×Nat)
 rU:Option Bool
 sl:Option (Nat×Nat)
 rc:Option (List (Nat×Nat))
 XO:Option (List (Option Bool))
 str:Bool
 w2:Bool
 V':Option (List Nat)
 kU:Nat
 x':Option IntKind
 QN:Bool
 fl:Bool
 pt:Bool
def zeroV (P:Program) (t:TypeId):Option (List Value):=(P.info? t).bind fun i=>i.zero.map fun v=>v.cells.toList
theorem I9 (P:Program) (t:TypeId):fz P t=(zeroV P t).map fun l=>l.map AV.sc:=by
 unfold fz zeroV
 cases P.info? t with
 | none=>rfl
 | some i=>cases h:i.zero<;>simp[h]
def MX (P:Program) (t:TypeId):Option IntKind:=match P.underlying t with | some (.int k)=>some k | _=>none
def Lt (P:Program) (t:TypeId):Bool:=match P.underlying t with | some (.float .f64)=>true | _=>false
def cr (P:Program) (t:TypeId):TI :=
 { cells:=P.cellsOf t,agg:=eT P t,zero:=zeroV P t,arr:=ep P t,rU:=rU P t,sl:=bE P t,rc:=jc P t,XO:=CD P t,str:=nv P t,w2:=w3 P t,V':=vw P t,kU:=de P t,x':=MX P t,QN:=(P.underlying t).isSome,fl:=Lt P t,pt:=CA P t }
abbrev au:=List (Nm×List X)
abbrev aL:=List (Nm×Option (List X))
abbrev ba:=List (Nat×X)
def b6:List X->Bool
 | [.rows _ _ _]=>true
 | [.tk _ _ _ _]=>true
 | _=>false
noncomputable def aA (ρ:aa):List X->List AV
 | [.rows _ n l]=>(aV ρ n l).flatten
 | [.tk z m t D]=>(bC ρ z m t++X.aX ρ D).flatten
 | cs=>X.af ρ cs
theorem cP {ρ:aa} {cs:List X} (h:b6 cs=false):aA ρ cs=X.af ρ cs:=by
 unfold aA
 split
 ·simp[b6]at h
 ·simp[b6]at h
 ·rfl
def bh:au->Nm->Option (List X)
 | [],_=>none
 | (m,v)::l,n=>if cN m n=true then some v else bh l n
def OC (cs:List X):Option (List X):=if b6 cs=true then none else some cs
def ph (h:au) (n:Nm):Option (List X):=match bh h n with
 | some cs=>OC cs
 | none=>none
theorem ai0 {cs ds:List X} (h:OC cs=some ds):cs=ds/\b6 ds=false:=by
 unfold OC at h
 split at h
 ·cases h
 ·rename_i hr;cases h;exact⟨rfl,by simpa using hr⟩
theorem af3 {h:au} {n:Nm} {cs:List X} (Z:ph h n=some cs):bh h n=some cs/\b6 cs=false:=by
 unfold ph at Z
 split at Z
 ·rename_i ds hd
  obtain⟨A,E⟩:=ai0 Z
  subst A
  exact⟨hd,E⟩
 ·cases Z
def xR:au->Nm->au
 | [],_=>[]
 | (m,v)::l,n=>if cN m n=true then xR l n else(m,v)::xR l n
def x2:au->Nm->List X->au
 | [],n,v=>[(n,v)]
 | (m,Y)::l,n,v=>if cN m n=true then(m,v)::l else(m,Y)::x2 l n v
def ij:aL->au->au
 | [],h=>h
 | (n,some v)::d,h=>ij d (x2 h n v)
 | (n,none)::d,h=>ij d (xR h n)
noncomputable def aO (ρ:aa) (h:au):Hp:=h.map fun p=>(p.1,aA ρ p.2)
noncomputable def bk (ρ:aa) (d:aL):Dl:=d.map fun p=>(p.1,p.2.map (aA ρ))
noncomputable def fm (ρ:aa) (t:ba):Tp:=t.map fun p=>(p.1,p.2.I ρ)
theorem Ow {a b:Nm}:cN a b=true↔a=b:=⟨eu,fun h=>by subst h;simp[cN]⟩
theorem cG (ρ:aa) (n:Nm):∀h:au,ae (aO ρ h) n=(bh h n).map (aA ρ)
 | []=>rfl
 | (m,v)::l=>by
  have ih:=cG ρ n l
  simp only[aO,List.map_cons,ae,bh,Ow]at ih ⊢
  by_cases e:m=n
  ·rw[if_pos e,if_pos e];rfl
  ·rw[if_neg e,if_neg e];exact ih
theorem xV {ρ:aa} {n:Nm} {h:au} {cs:List X} (Z:ph h n=some cs):ae (aO ρ h) n=some (X.af ρ cs):=by
 obtain⟨A,E⟩:=af3 Z
 rw[cG,A,Option.map_some,cP E]
theorem SY (ρ:aa) (n:Nm):∀h:au,aO ρ (xR h n)=pg (aO ρ h) n
 | []=>rfl
 | (m,v)::l=>by
  have ih:=SY ρ n l
  simp only[aO,List.map_cons,pg,xR,Ow]at ih ⊢
  by_cases e:m=n
  ·rw[if_pos e,if_pos e];exact ih
  ·rw[if_neg e,if_neg e,List.map_cons,ih]
theorem SZ (ρ:aa) (n:Nm) (v:List X):∀h:au,aO ρ (x2 h n v)=gU (aO ρ h) n (aA ρ v)
 | []=>rfl
 | (m,Y)::l=>by
  have ih:=SZ ρ n v l
  simp only[aO,List.map_cons,gU,x2,Ow]at ih ⊢
  by_cases e:m=n
  ·rw[if_pos e,if_pos e];rfl
  ·rw[if_neg e,if_neg e,List.map_cons,ih]
theorem o7 (ρ:aa):∀(d:aL) (h:au),aO ρ (ij d h)=aD (bk ρ d) (aO ρ h)
 | [],_=>rfl
 | (n,some v)::d,h=>by
  have ih:=o7 ρ d (x2 h n v)
  simp only[ij,bk,List.map_cons,Option.map_some,aD]at ih ⊢
  rw[ih,SZ]
 | (n,none)::d,h=>by
  have ih:=o7 ρ d (xR h n)
  simp only[ij,bk,List.map_cons,Option.map_none,aD]at ih ⊢
  rw[ih,SY]
def bY:ba->Nat->X
 | [],_ => .top
 | (j,v)::l,i=>if Nat.beq j i=true then v else bY l i
theorem jf (ρ:aa) (i:Nat):∀t:ba,bR (fm ρ t) i=(bY t i).I ρ
 | []=>rfl
 | (j,v)::l=>by
  have ih:=jf ρ i l
  simp only[fm,List.map_cons,bR,bY]at ih ⊢
  by_cases e:j=i
  ·rw[if_pos e,if_pos (by simpa using e)]
  ·rw[if_neg e,if_neg (by simpa using e)];exact ih
def nD (d:Option Tmp) (v:X) (t:ba):ba :=
 match d with
 | some d=>(d,v)::t
 | none=>t
theorem ED (ρ:aa) (d:Option Tmp) (v:X) (t:ba):fm ρ (nD d v t)=gG d (v.I ρ) (fm ρ t):=by cases d<;>rfl
def X.cells:X->List X
 | .agg cs=>cs
 | v=>[v]
def X.one:X->Bool
 | .top | .agg _ | .tup _ | .gd _ _ | .rows _ _ _ | .tk _ _ _ _=>false
 | .k v=>v.oneCell'
 | _=>true
theorem X.one_den (ρ:aa) (x:X) (h:x.one=true):(x.I ρ).one=true:=by
 cases x with
 | sc s=>cases s<;>rfl
 | k v=>exact h
 | gd c x=>cases h
 | top=>cases h
 | agg cs=>cases h
 | tup cs=>cases h
 | rows z n l=>cases h
 | tk _ _ _ _=>cases h
 | cJ t o j=>exact(ρ.ct t o _).2.2
 | _=>rfl
theorem agU {l:List X} (h:l.all X.one=true):b6 l=false:=by
 unfold b6
 split
 ·simp[X.one]at h
 ·simp[X.one]at h
 ·rfl
theorem akX {v:AV} (h:v.one=true):v.cells=[v]:=by
 cases v<;>first | rfl | cases h
theorem X.nO (ρ:aa):∀l:List X,l.all X.one=true->(X.af ρ l).all AV.one=true
 | [],_=>rfl
 | x::xs,h=>by
  simp only[List.all_cons,Bool.and_eq_true]at h
  simp only[X.af,List.all_cons,X.one_den ρ x h.1,X.nO ρ xs h.2,Bool.and_self]
theorem X.Ad (ρ:aa) (x:X) (h:x.cells.all X.one=true):(x.I ρ).cells=X.af ρ x.cells:=by
 cases x with
 | gd c x=>simp[X.cells,X.one]at h
 | cJ t o j=>exact akX (ρ.ct t o _).2.2
 | _=>rfl
def wo (k:Nat):List (BE×Nat)->List (BE×Nat)
 | []=>[]
 | (c,o)::r=>(c,o+k)::wo k r
theorem Ag (ρ:aa) (k d:Nat):∀aG,choose ρ (wo k aG) (d+k)=choose ρ aG d+k
 | []=>rfl
 | (c,o)::r=>by
  simp only[wo,choose,Ag ρ k d r]
  split<;>rfl
def wW (g:BE->BE) (e:U) (z o:Nat):Nat->List (BE×Nat)->List (BE×Nat)
 | 0,r=>r
 | m+1,r=>wW g e z o m ((g (mkEq e (.lit m)),o+m*z)::r)
theorem J3 {ρ:aa} {g:BE->BE} {v:Bool} (Z:∀b,(g b).I ρ=(v&&b.I ρ)) {e:U} {j:Nat} (G:e.I ρ=j) (z o d:Nat):∀(m:Nat) (r:List (BE×Nat)),
  choose ρ (wW g e z o m r) d=if v=true/\j<m then o+j*z else choose ρ r d
 | 0,r=>by simp[wW]
 | m+1,r=>by
  rw[wW,J3 Z G z o d m]
  simp only[choose,Z,eQ,G,U.I]
  by_cases R:v=true
  ·subst R
   by_cases A:j<m
   ·rw[if_pos ⟨rfl,A⟩,if_pos ⟨rfl,by omega⟩]
   ·rw[if_neg (by simp[A])]
    by_cases E:j=m
    ·subst E;simp
    ·have h3:¬(j<m+1):=by omega
     have h4:((j:Int)==(m:Int))=false:=by
      rw[beq_eq_false_iff_ne];intro h;apply E;exact_mod_cast h
     simp[h3,h4]
  ·have hf:v=false:=by simpa using R
   subst hf;simp
def vm (e:U) (z len:Nat):List (BE×Nat)->Nat->List (BE×Nat)
 | [],d=>wW (fun b=>b) e z d (len-1) []
 | (c,o)::r,d=>wW (mkAnd c) e z o (len-1) ((c,o+(len-1)*z)::vm e z len r d)
theorem Ew {ρ:aa} {e:U} {z len:Nat} {j:Nat} (G:e.I ρ=j) (O:j<len) (d:Nat):∀aG,choose ρ (vm e z len aG d) (d+(len-1)*z)=choose ρ aG d+j*z
 | []=>by
  rw[vm,J3 (v:=true) (fun b=>by simp) G]
  simp only[choose,true_and]
  split
  ·rfl
  ·rw[show len-1=j from by omega]
 | (c,o)::r=>by
  rw[vm,J3 (v:=c.I ρ) (fun b=>by rw[fM]) G]
  simp only[choose,Ew G O d r]
  by_cases H:c.I ρ=true
  ·simp only[H,true_and,if_true]
   split
   ·rfl
   ·rw[show len-1=j from by omega]
  ·simp[H]
def tp:Option Bool->Nat->List X->Nat->Option X
 | some true,z,cs,off=>if Nat.blt 0 z&&Nat.ble (off+z) cs.length then some (.agg ((cs.drop off).take z))else none
 | some false,_,cs,off=>cs[off]?
 | none,_,_,_=>none
theorem y0 {ρ:aa} {b:Option Bool} {z:Nat} {cs:List X} {off:Nat} {v:X} (h:tp b z cs off=some v):jK b z (X.af ρ cs) off=some (v.I ρ):=by
 unfold tp at h
 split at h
 ·split at h
  ·rename_i H
   simp only[Bool.and_eq_true,Nat.blt_eq,Nat.ble_eq]at H
   cases h
   simp only[jK,X.f_,X.I,X.Ks,X.xa]
   rw[if_pos ⟨by simpa [Nat.blt_eq]using H.1,H.2⟩]
  ·cases h
 ·simp only[jK,X.r9,h,Option.map_some]
 ·cases h
def yY (b:Option Bool) (z:Nat) (cs:List X):List (BE×Nat)->Nat->Option X
 | [],d=>tp b z cs d
 | (c,o)::r,d=>match tp b z cs o,yY b z cs r d with
  | some x,some y=>X.en c x y
  | _,_=>none
theorem Hy {ρ:aa} {b:Option Bool} {z:Nat} {cs:List X} {d:Nat}:∀{aG:List (BE×Nat)} {v:X},yY b z cs aG d=some v->jK b z (X.af ρ cs) (choose ρ aG d)=some (v.I ρ)
 | [],v,h=>y0 h
 | (c,o)::r,v,h=>by
  simp only[yY]at h
  split at h
  ·rename_i x y A E
   rw[X.Ca _ _ _ h]
   simp only[choose]
   split
   ·exact y0 A
   ·exact Hy E
  ·cases h
def Gf (i:TI) (h:au):X->Option X
 | .ptr n aG d=>match ph h n with
  | some cs=>yY i.agg i.cells cs aG d
  | none=>none
 | .ip cs aG d=>yY i.agg i.cells cs aG d
 | _=>none
theorem V1 {P:Program} {ρ:aa} {ty:TypeId} {h:au} {x v:X} (R:Gf (cr P ty) h x=some v):oq P (aO ρ h) ty (x.I ρ)=some (v.I ρ):=by
 unfold Gf at R
 split at R
 ·split at R
  ·rename_i cs Z
   simp only[X.I,oq,xV Z,HB]
   exact Hy R
  ·cases R
 ·simp only[X.I,oq]
  exact Hy R
 ·cases R
def tI (cs:List X) (off:Nat) (vs:List X):List X:=cs.take off++(vs++cs.drop (off+vs.length))
theorem Ii (ρ:aa) (cs:List X) (off:Nat) (vs:List X):X.af ρ (tI cs off vs)=fT (X.af ρ cs) off (X.af ρ vs):=by
 simp only[tI,fT,X.gq,X.Ks,X.xa,X.f_]
def IQ (z:Nat) (cs ys:List X) (o:Nat):Option (List X):=if Nat.blt 0 z&&(Nat.beq ys.length z&&(Nat.ble (o+z) cs.length&&ys.all X.one))then some (tI cs o ys)else none
theorem aay {ρ:aa} {z:Nat} {cs ys bn:List X} {o:Nat} {m:Nm} (h:IQ z cs ys o=some bn):wG z m o (X.af ρ ys) (some (X.af ρ cs))=some [(m,some (X.af ρ bn))]:=by
 unfold IQ at h
 split at h
 ·rename_i H
  simp only[Bool.and_eq_true,Nat.ble_eq]at H
  cases h
  simp only[wG,X.f_,Ii]
  rw[if_pos ⟨by simpa [Nat.blt_eq]using H.1,Nat.eq_of_beq_eq_true H.2.1,H.2.2.1,X.nO ρ _ H.2.2.2⟩]
 ·cases h
def IS (z:Nat) (cs ys:List X):List (BE×Nat)->Nat->Option (List X)
 | [],d=>IQ z cs ys d
 | (c,o)::r,d=>match IQ z cs ys o,IS z cs ys r d with
  | some x,some y=>X.pz c x y
  | _,_=>none
theorem aaz {ρ:aa} {z:Nat} {cs ys:List X} {d:Nat} {m:Nm}:∀{aG:List (BE×Nat)} {bn:List X},IS z cs ys aG d=some bn->wG z m (choose ρ aG d) (X.af ρ ys) (some (X.af ρ cs))=some [(m,some (X.af ρ bn))]
 | [],_,h=>aay h
 | (c,o)::r,v,h=>by
  simp only[IS]at h
  split at h
  ·rename_i x y A E
   rw[X.B_ _ _ _ h]
   simp only[choose]
   split
   ·exact aay A
   ·exact aaz E
  ·cases h
def Qj (i:TI) (h:au):X->List X->Option aL
 | .ptr n aG d,ys=>if ys.all X.one=true then match ph h n with
  | some cs=>match IS i.cells cs ys aG d with
   | some bn=>if b6 bn=true then none else some [(n,some bn)]
   | none=>none
  | none=>none
  else none
 | _,_=>none
theorem arW {P:Program} {ρ:aa} {ty:TypeId} {h:au} {x:X} {ys:List X} {d:aL} (R:Qj (cr P ty) h x ys=some d):ys.all X.one=true/\pU P (aO ρ h) ty (x.I ρ) (X.af ρ ys)=some (bk ρ d):=by
 unfold Qj at R
 split at R
 ·split at R
  ·rename_i gA
   split at R
   ·rename_i cs Z
    split at R
    ·rename_i bn hw
     split at R
     ·cases R
     ·rename_i hr
      cases R
      refine⟨gA,?_⟩
      simp only[X.I,pU,xV Z,bk,List.map_cons,List.map_nil,Option.map_some,cP (ρ:=ρ) (show b6 bn=false by simpa using hr)]
      exact aaz hw
    ·cases R
   ·cases R
  ·cases R
 ·cases R
def gV {ao:Type} (B:J) (e n:U) (k:J->T ao):T ao:=want B (mkNot (mkLt e (.lit 0))) fun B=>want B (mkLt e n) k
theorem lG {ao:Type} {ρ:aa} {B:J} {e n:U} {k:J->T ao} {a:ao} (u:J.ok ρ B) (h:(gV B e n k).aq ρ=some a):∃aS j,J.ok ρ aS/\e.I ρ=(j:Nat)/\(j:Int)<n.I ρ/\(k aS).aq ρ=some a:=by
 unfold gV at h
 obtain⟨fd,bp,A,h⟩:=cX u h
 obtain⟨lw,dO,E,h⟩:=cX bp h
 rw[et,gY]at A
 rw[gY]at E
 have A:¬(U.I ρ e<U.I ρ (.lit 0)):=fun W=>by rw[decide_eq_true W]at A;cases A
 have E:=of_decide_eq_true E
 simp only[U.I]at A
 exact⟨lw,(e.I ρ).toNat,dO,by omega,by omega,h⟩
def Hq (n:Nm) (aG:List (BE×Nat)) (d:Nat) (e:U) (z len:Nat):X :=
 match e with
 | .lit j => .ptr n (wo (j.toNat*z) aG) (d+j.toNat*z)
 | e => .ptr n (vm e z len aG d) (d+(len-1)*z)
theorem XL {ρ:aa} {n:Nm} {aG:List (BE×Nat)} {d:Nat} {e:U} {z len j:Nat} (G:e.I ρ=j) (O:j<len):(Hq n aG d e z len).I ρ = .ptr n (choose ρ aG d+j*z):=by
 unfold Hq
 split
 ·rename_i i
  simp only[U.I]at G
  simp only[X.I,Ag,G,Int.toNat_natCast]
 ·simp only[X.I,Ew G O]
def M1 (cs:List X) (aG:List (BE×Nat)) (d:Nat) (e:U) (z len:Nat):X :=
 match e with
 | .lit j => .ip cs (wo (j.toNat*z) aG) (d+j.toNat*z)
 | e => .ip cs (vm e z len aG d) (d+(len-1)*z)
theorem agR {ρ:aa} {cs:List X} {aG:List (BE×Nat)} {d:Nat} {e:U} {z len j:Nat} (G:e.I ρ=j) (O:j<len):(M1 cs aG d e z len).I ρ = .ip (X.af ρ cs) (choose ρ aG d+j*z):=by
 unfold M1
 split
 ·rename_i i
  simp only[U.I]at G
  simp only[X.I,Ag,G,Int.toNat_natCast]
 ·simp only[X.I,Ew G O]
def Cf (e:U):Nat->List (List X)->Option (List X)
 | _,[]=>none
 | _,[r]=>some r
 | j,r::rs=>match Cf e (j+1) rs with
  | some y=>X.pz (mkEq e (.lit j)) r y
  | none=>none
theorem Wy {ρ:aa} {e:U}:∀(D:List (List X)) (j t:Nat) (r:List X),e.I ρ=((j+t:Nat):Int)->t<D.length->Cf e j D=some r->(X.aX ρ D)[t]? = some (X.af ρ r)
 | [],j,t,r,_,ht,_=>by simp at ht
 | [a],j,t,r,_,ht,h=>by
  simp only[Cf,Option.some.injEq]at h
  subst h
  obtain rfl:t=0:=by simpa using ht
  rfl
 | a::b::rs,j,t,r,G,ht,h=>by
  simp only[Cf]at h
  split at h
  ·rename_i y hy
   rw[X.B_ _ _ _ h]
   cases t with
   | zero =>
    have H:(mkEq e (.lit j)).I ρ=true:=by rw[eQ,G];simp[U.I]
    rw[if_pos H];rfl
   | succ t =>
    have H:¬(mkEq e (.lit j)).I ρ=true:=by rw[eQ,G];simp only[U.I,beq_iff_eq];omega
    rw[if_neg H]
    simp only[X.aX,List.getElem?_cons_succ]
    have:=Wy (b::rs) (j+1) t y (by rw[G];congr 1;omega) (by simpa using ht) hy
    simpa only[X.aX]using this
  ·cases h
def rowAt (e:U) (D:List (List X)):Option (List X) :=
 match e with
 | .lit j=>D[j.toNat]?
 | e=>Cf e 0 D
theorem aqG {ρ:aa} {e:U} {D:List (List X)} {j:Nat} {r:List X} (G:e.I ρ=j) (O:j<D.length) (h:rowAt e D=some r):(X.aX ρ D)[j]? = some (X.af ρ r):=by
 unfold rowAt at h
 split at h
 ·rename_i i
  simp only[U.I]at G
  rw[G,Int.toNat_natCast]at h
  rw[X.w_,h];rfl
 ·exact Wy D 0 j r (by rw[G];simp) O h
def RL.gv (B:J):RL->U->Option (List Sc)
 | .var l ks,j=>some (qh l j 0 ks)
 | .one r,_=>some r
 | .app n a b,j=>match red B (mkLt j n)with
  | .lit true=>a.gv B j
  | .lit false=>b.gv B (mkSub j n)
  | c=>match a.gv B j,b.gv B (mkSub j n)with
   | some x,some y=>nf c x y
   | _,_=>none
 | .drop n a,j=>a.gv B (mkAdd j n)
 | .eK i r a,j=>match red B (mkEq j i)with
  | .lit true=>some r
  | .lit false=>a.gv B j
  | c=>match a.gv B j with
   | some y=>nf c r y
   | none=>none
 | .ite c a b,j=>match red B c with
  | .lit true=>a.gv B j
  | .lit false=>b.gv B j
  | c=>match a.gv B j,b.gv B j with
   | some x,some y=>nf c x y
   | _,_=>none
theorem RL.k_ {ρ:aa} {B:J} (u:J.ok ρ B):∀{l:RL} {j:U} {r:List Sc},l.gv B j=some r->ca ρ r=l.row ρ (j.I ρ)
 | .var l ks,j,r,h=>by
  simp only[RL.gv,Option.some.injEq]at h
  subst h
  exact Aa ρ l j 0 ks
 | .one s,j,r,h=>by
  simp only[RL.gv,Option.some.injEq]at h
  subst h;rfl
 | .app n a b,j,r,h=>by
  simp only[RL.gv]at h
  have H:=(c9 u (mkLt j n)).trans (gY ρ j n)
  simp only[RL.row]
  split at h
  ·rename_i hd
   rw[hd]at H
   have:=of_decide_eq_true (H.symm)
   rw[if_pos this]
   exact RL.k_ u h
  ·rename_i hd
   rw[hd]at H
   have:=of_decide_eq_false (H.symm)
   rw[if_neg this,<-ng]
   exact RL.k_ u h
  ·split at h
   ·rename_i x y A E
    rw[vA h,RL.k_ u A,RL.k_ u E,ng,H]
    by_cases W:U.I ρ j<U.I ρ n
    ·rw[if_pos (decide_eq_true W),if_pos W]
    ·rw[if_neg (by simpa using W),if_neg W]
   ·cases h
 | .drop n a,j,r,h=>by
  simp only[RL.gv]at h
  simp only[RL.row]
  rw[<-fe]
  exact RL.k_ u h
 | .eK i q a,j,r,h=>by
  simp only[RL.gv]at h
  have H:=(c9 u (mkEq j i)).trans (eQ ρ j i)
  simp only[RL.row]
  split at h
  ·rename_i hd
   rw[hd]at H
   cases h
   rw[if_pos (by simpa [BE.I]using H.symm)]
  ·rename_i hd
   rw[hd]at H
   rw[if_neg (by simpa [BE.I]using H.symm)]
   exact RL.k_ u h
  ·split at h
   ·rename_i y E
    rw[vA h,RL.k_ u E,H]
    by_cases W:U.I ρ j=U.I ρ i
    ·rw[if_pos (by simpa using W),if_pos W]
    ·rw[if_neg (by simpa using W),if_neg W]
   ·cases h
 | .ite c a b,j,r,h=>by
  simp only[RL.gv]at h
  simp only[RL.row]
  have H:=c9 u c
  split at h
  ·rename_i hd
   rw[hd]at H
   rw[if_pos (show BE.I ρ c=true from H.symm)]
   exact RL.k_ u h
  ·rename_i hd
   rw[hd]at H
   rw[if_neg (by rw[<-H];simp[BE.I])]
   exact RL.k_ u h
  ·split at h
   ·rename_i x y A E
    rw[vA h,RL.k_ u A,RL.k_ u E,H]
   ·cases h
def iu (h:au) (n:Nm):Bool:=(bh h n).isSome
theorem jE {ρ:aa} {h:au} {n:Nm} (u:iu h n=true):(ae (aO ρ h) n).isSome=true:=by
 rw[cG];unfold iu at u;simpa using u
def eH {ao:Type}:Option ao->T ao
 | some a => .ret a
 | none=>(.fail [])
theorem e6 {ao:Type} {ρ:aa} {o:Option ao} {a:ao} (h:(eH o).aq ρ=some a):o=some a:=by
 cases o with
 | none=>cases h
 | some b=>cases h;rfl
def Hi (B:J) (e:U):U:=match fI B e with
 | ⟨some l,some h⟩=>if l=h then .lit l else e
 | _=>e
theorem Xz {ρ:aa} {B:J} (u:J.ok ρ B) (e:U):(Hi B e).I ρ=e.I ρ:=by
 unfold Hi
 split
 ·rename_i l h R
  split
  ·rename_i G
   have:=gW u e
   rw[R]at this
   have A:=this.1 l rfl
   have E:=this.2 h rfl
   simp only[U.I];omega
  ·rfl
 ·rfl
theorem eG {ρ:aa} {a b:U} (h:(mkNot (mkLt a b)).I ρ=true):¬a.I ρ<b.I ρ:=fun W=>by
 rw[et,gY,decide_eq_true W]at h;cases h
def qg (z t:Nat) (j:U):List X:=(List.range z).map fun k => .cJ t k j
theorem JU (ρ:aa) (z t:Nat) (j:U):X.af ρ (qg z t j)=(List.range z).map fun k=>(ρ.ct t k (j.I ρ).toNat).1:=by
 simp only[qg,X.l5,List.map_map];rfl
theorem Pz {ρ:aa} {z:Nat} {m:U} {t j:Nat} (O:(j:Int)<m.I ρ):(bC ρ z m t)[j]? = some ((List.range z).map fun k=>(ρ.ct t k j).1):=by
 unfold bC
 rw[List.getElem?_map,List.getElem?_range (by omega)]
 rfl
theorem we {ρ:aa} {z:Nat} {m:U} {t:Nat}:(bC ρ z m t).length=(m.I ρ).toNat:=by
 unfold bC;rw[List.length_map,List.length_range]
def HQ (B:J) (e m:U):List (List X)->Nat->Option (List X)
 | [],_=>none
 | r::D,q=>match red B (mkEq e (mkAdd m (.lit q)))with
  | .lit true=>some r
  | _=>HQ B e m D (q+1)
theorem Yd {ρ:aa} {B:J} (u:J.ok ρ B) {e m:U} {r:List X}:∀{D:List (List X)} {q:Nat},HQ B e m D q=some r->∃p:Nat,D[p]? = some r/\e.I ρ=m.I ρ+((q+p:Nat):Int)
 | [],_,h=>by cases h
 | r'::D,q,h=>by
  simp only[HQ]at h
  split at h
  ·rename_i hr
   cases h
   have A:=c9 u (mkEq e (mkAdd m (.lit q)))
   rw[hr,eQ]at A
   have A:(e.I ρ==(mkAdd m (.lit (q:Int))).I ρ)=true:=A.symm
   rw[fe,beq_iff_eq]at A
   exact⟨0,rfl,A⟩
  ·obtain⟨p,A,E⟩:=Yd u h
   exact⟨p+1,A,by rw[E];congr 2;omega⟩
def MV (i:TI) (h:au) (B:J) (x y:X):T X :=
 match x,y with
 | .ptr n aG d,.sc (.i _ e)=>match i.arr with
  | some (len,z)=>if iu h n=true then gV B e (.lit len) fun _ => .ret (Hq n aG d (Hi B e) z len)else(.fail [])
  | none=>(.fail [])
 | .ip cs aG d,.sc (.i _ e)=>match i.arr with
  | some (len,z)=>gV B e (.lit len) fun _ => .ret (M1 cs aG d (Hi B e) z len)
  | none=>(.fail [])
 | .sl n z off len _,.sc (.i _ e)=>match i.sl with
  | some (_,z')=>if(Nat.beq z' z&&iu h n)=true then gV B e (.lit len) fun _ => .ret (Hq n [] off e z len)else(.fail [])
  | none=>(.fail [])
 | .ro z D _,.sc (.i _ e)=>match i.sl with
  | some (_,z')=>if Nat.beq z' z=true then gV B e (.lit D.length) fun _=>eH ((rowAt e D).map fun r => .ip r [] 0)else(.fail [])
  | none=>(.fail [])
 | .rl z n l _,.sc (.i _ e)=>match i.sl with
  | some (_,z')=>if Nat.beq z' z=true then gV B e n fun B=>eH ((l.gv B e).map fun r => .ip (Co r) [] 0)else(.fail [])
  | none=>(.fail [])
 | .rn z n l ks _,.sc (.i _ e)=>match i.sl with
  | some (_,z')=>if Nat.beq z' z=true then gV B e n fun _ => .ret (.ip (ux l e 0 ks) [] 0)else(.fail [])
  | none=>(.fail [])
 | .tq z m t D _,.sc (.i _ e)=>match i.sl with
  | some (_,z')=>if Nat.beq z' z=true then want B (mkNot (mkLt m (.lit 0))) fun B=>(match HQ B e m D 0 with
   | some r => .ret (.ip r [] 0)
   | none=>gV B e m fun _ => .ret (.ip (qg z t e) [] 0))else(.fail [])
  | none=>(.fail [])
 | _,_=>(.fail [])
theorem mD {ρ:aa} {n:U} {l:RL} {j:Nat} (O:(j:Int)<n.I ρ):(aV ρ n l)[j]? = some (l.row ρ j):=by
 unfold aV
 rw[List.getElem?_map,List.getElem?_range (by omega)]
 rfl
theorem Yj {ρ:aa} {n:U} {l:Nat} {ks:List Nk} {j:Nat} (O:(j:Int)<n.I ρ):(fS ρ n l ks)[j]? = some (dL ρ l 0 ks j):=by
 unfold fS
 rw[List.getElem?_map,List.getElem?_range (by omega)]
 rfl
theorem agH {P:Program} {ρ:aa} {ty:TypeId} {h:au} {B:J} {x y v:X} (u:J.ok ρ B) (R:(MV (cr P ty) h B x y).aq ρ=some v):jz P (aO ρ h) ty (x.I ρ) (y.I ρ)=some (v.I ρ):=by
 unfold MV at R
 split at R
 ·split at R
  ·rename_i n aG d k e len z ha
   split at R
   ·rename_i ho
    obtain⟨aS,j,_,G,O,R⟩:=lG u R
    cases R
    simp only[U.I]at O
    rw[XL ((Xz u _).trans G) (by omega)]
    have dz:ep P ty=some (len,z):=ha
    simp only[X.I,Sc.I,jz,dz,FN,G,jE ho,Int.toNat_natCast]
    rw[if_pos ⟨trivial,by omega,by omega⟩]
   ·cases R
  ·cases R
 ·split at R
  ·rename_i cs aG d k e len z ha
   obtain⟨aS,j,_,G,O,R⟩:=lG u R
   cases R
   simp only[U.I]at O
   rw[agR ((Xz u _).trans G) (by omega)]
   have dz:ep P ty=some (len,z):=ha
   simp only[X.I,Sc.I,jz,dz,MT,G,Int.toNat_natCast]
   rw[if_pos ⟨by omega,by omega⟩]
  ·cases R
 ·split at R
  ·rename_i n z off len own k e ee z' ha
   split at R
   ·rename_i ho
    simp only[Bool.and_eq_true]at ho
    have hz:=Nat.eq_of_beq_eq_true ho.1
    subst hz
    obtain⟨aS,j,_,G,O,R⟩:=lG u R
    cases R
    simp only[U.I]at O
    rw[XL G (by omega)]
    have dz:bE P ty=some (ee,z'):=ha
    simp only[X.I,Sc.I,jz,dz,FO,G,jE ho.2,Int.toNat_natCast,choose]
    rw[if_pos ⟨trivial,trivial,by omega,by omega⟩]
   ·cases R
  ·cases R
 ·split at R
  ·rename_i z D full k e ee z' ha
   split at R
   ·rename_i ho
    have hz:=Nat.eq_of_beq_eq_true ho
    subst hz
    obtain⟨aS,j,_,G,O,R⟩:=lG u R
    obtain⟨r,hr,rfl⟩:=Option.map_eq_some_iff.1 (e6 R)
    simp only[U.I]at O
    have hM:=aqG (ρ:=ρ) G (by omega) hr
    have dz:bE P ty=some (ee,z'):=ha
    simp only[X.I,Sc.I,jz,dz,vl,G,Int.toNat_natCast,hM,x_,choose]
    rw[if_pos ⟨trivial,by omega⟩]
   ·cases R
  ·cases R
 ·split at R
  ·rename_i z n l full k e ee z' ha
   split at R
   ·rename_i ho
    have hz:=Nat.eq_of_beq_eq_true ho
    subst hz
    obtain⟨aS,j,aM,G,O,R⟩:=lG u R
    obtain⟨r,hr,rfl⟩:=Option.map_eq_some_iff.1 (e6 R)
    have hM:=RL.k_ (ρ:=ρ) aM hr
    rw[G]at hM
    have dz:bE P ty=some (ee,z'):=ha
    simp only[X.I,Sc.I,jz,dz,vl,G,Int.toNat_natCast,mD O,x_,choose,OJ,hM]
    rw[if_pos ⟨trivial,by omega⟩]
   ·cases R
  ·cases R
 ·split at R
  ·rename_i z n l ks full k e ee z' ha
   split at R
   ·rename_i ho
    have hz:=Nat.eq_of_beq_eq_true ho
    subst hz
    obtain⟨aS,j,aM,G,O,R⟩:=lG u R
    cases R
    have dz:bE P ty=some (ee,z'):=ha
    simp only[X.I,Sc.I,jz,dz,vl,G,Int.toNat_natCast,Yj O,x_,choose,JV]
    rw[if_pos ⟨trivial,by omega⟩]
   ·cases R
  ·cases R
 ·split at R
  ·rename_i z m t D full k e _ ee z' ha
   split at R
   ·rename_i ho
    have hz:=Nat.eq_of_beq_eq_true ho
    subst hz
    obtain⟨fd,bp,A,R⟩:=cX u R
    have A:=eG A
    simp only[U.I]at A
    have dz:bE P ty=some (ee,z'):=ha
    split at R
    ·rename_i r hr
     cases R
     obtain⟨p,hp,G⟩:=Yd bp hr
     have Z:(bC ρ z' m t++X.aX ρ D)[(e.I ρ).toNat]? = some (X.af ρ r):=by
      rw[List.getElem?_append_right (by rw[we];omega),we,show(e.I ρ).toNat-(m.I ρ).toNat=p from by omega,X.w_,hp];rfl
     simp only[X.I,Sc.I,jz,dz,vl,Z,x_,choose]
     rw[if_pos ⟨trivial,by omega⟩]
    ·obtain⟨aS,j,aM,G,O,R⟩:=lG bp R
     cases R
     have Z:(bC ρ z' m t++X.aX ρ D)[j]? = some ((List.range z').map fun k=>(ρ.ct t k j).1):=by
      rw[List.getElem?_append_left (by rw[we];omega)]
      exact Pz O
     simp only[X.I,Sc.I,jz,dz,vl,G,Int.toNat_natCast,Z,x_,choose,JU]
     rw[if_pos ⟨trivial,by omega⟩]
   ·cases R
  ·cases R
 ·cases R
def Lo (i:TI) (h:au) (f:Nat) (x:X):Option X :=
 match i.rc with
 | some l=>match l[f]? with
  | some (o,_)=>match x with
   | .ptr n aG d=>if iu h n=true then some (.ptr n (wo o aG) (d+o))else none
   | .ip cs aG d=>some (.ip cs (wo o aG) (d+o))
   | .dv n z j p=>if iu h n=true then some (.dv n z j (p+o))else none
   | _=>none
  | none=>none
 | none=>none
theorem aeY {P:Program} {ρ:aa} {ty:TypeId} {h:au} {f:Nat} {x v:X} (R:Lo (cr P ty) h f x=some v):AN P (aO ρ h) ty f (x.I ρ)=some (v.I ρ):=by
 unfold Lo at R
 split at R
 ·rename_i l M
  have bX:jc P ty=some l:=M
  split at R
  ·rename_i o z hf
   simp only[AN,bX,hf,Ln]
   split at R
   ·split at R
    ·rename_i ho
     cases R
     simp only[X.I,jE ho,if_true,Ag]
    ·cases R
   ·cases R
    simp only[X.I,Ag]
   ·split at R
    ·rename_i ho
     cases R
     simp only[X.I,jE ho,if_true,Nat.add_assoc]
    ·cases R
   ·cases R
  ·cases R
 ·cases R
end Go.Proofs.Xw
namespace Go.Proofs.Xw
open Go Go.Proofs.Aw
theorem WB (a b:Nat):Nat.beq a b=(a==b):=by rw[Bool.eq_iff_iff];simp
def Lp (i:TI) (f:Nat):X->Option X
 | .agg cs=>match i.rc,i.XO with
  | some l,some bs=>match l[f]?,bs[f]? with
   | some (o,z),some b=>tp b z cs o
   | _,_=>none
  | _,_=>none
 | _=>none
theorem ae0 {P:Program} {ρ:aa} {ty:TypeId} {f:Nat} {x v:X} (R:Lp (cr P ty) f x=some v):AP P ty f (x.I ρ)=some (v.I ρ):=by
 unfold Lp at R
 split at R
 ·split at R
  ·rename_i cs l bs M hb
   have bX:jc P ty=some l:=M
   have f0:CD P ty=some bs:=hb
   split at R
   ·rename_i o z b A E
    simp only[X.I,AP,bX,f0,A,E,E3]
    exact y0 R
   ·cases R
  ·cases R
 ·cases R
def Gy:TE->U->U
 | .lit s,.lit j => .lit (((s[j.toNat]?).getD 0).toNat)
 | t,j => .fD t j
theorem Wm (ρ:aa) (t:TE) (j:U):(Gy t j).I ρ=(((t.I ρ)[(j.I ρ).toNat]?).getD 0).toNat:=by
 unfold Gy;split<;>simp[U.I,TE.I]
def MY (i:TI) (B:J) (x y:X):T X :=
 match x,y with
 | .agg cs,.sc (.i _ e)=>match i.arr with
  | some (len,z)=>gV B e (.lit len) fun _=>eH (match e with
   | .lit j=>tp i.rU z cs (j.toNat*z)
   | e=>yY i.rU z cs (vm e z len [] 0) (0+(len-1)*z))
  | none=>(.fail [])
 | .sc (.s t),.sc (.i _ e)=>if i.str=true then gV B e (s7 t) fun _ => .ret (.sc (.i .u8 (Gy t e)))else(.fail [])
 | _,_=>(.fail [])
theorem agM {P:Program} {ρ:aa} {ty:TypeId} {B:J} {x y v:X} (u:J.ok ρ B) (R:(MY (cr P ty) B x y).aq ρ=some v):yb P ty (x.I ρ) (y.I ρ)=some (v.I ρ):=by
 unfold MY at R
 split at R
 ·split at R
  ·rename_i cs k e len z ha
   obtain⟨aS,j,_,G,O,R⟩:=lG u R
   have R:=e6 R
   simp only[U.I]at O
   have dz:ep P ty=some (len,z):=ha
   simp only[X.I,Sc.I,yb,dz,G,Int.toNat_natCast]
   rw[if_pos ⟨by omega,by omega⟩]
   split at R
   ·rename_i auu
    simp only[U.I]at G
    have:=y0 (ρ:=ρ) R
    rw[G,Int.toNat_natCast]at this
    exact this
   ·have:=Hy (ρ:=ρ) R
    rw[Ew G (by omega),choose,Nat.zero_add]at this
    exact this
  ·cases R
 ·split at R
  ·rename_i t k e hs
   have cu:nv P ty=true:=hs
   obtain⟨aS,j,_,G,O,R⟩:=lG u R
   cases R
   rw[yF]at O
   simp only[X.I,Sc.I,yb,cu,G,Int.toNat_natCast,Wm]
   rw[if_pos ⟨trivial,by omega⟩]
   have aQ:j<(t.I ρ).size:=by omega
   have:(t.I ρ)[j]? = some ((t.I ρ)[j]'aQ):=getElem?_pos (t.I ρ) j aQ
   rw[this];rfl
  ·cases R
 ·cases R
def KK {ao:Type} (e:U) (k:J->Nat->T ao):Nat->J->T ao
 | 0,B=>want B (mkEq e (.lit 0)) fun B=>k B 0
 | m+1,B=>part B (mkEq e (.lit (m+1:Nat))) (fun B=>k B (m+1)) (fun B=>KK e k m B)
theorem Y8 {ao:Type} {ρ:aa} {e:U} {k:J->Nat->T ao} {a:ao}:∀(n:Nat) {B:J},J.ok ρ B->(KK e k n B).aq ρ=some a->∃aS j,J.ok ρ aS/\j<=n/\e.I ρ=(j:Nat)/\(k aS j).aq ρ=some a
 | 0,B,u,h=>by
  obtain⟨aS,aM,A,h⟩:=cX u h
  rw[eQ,beq_iff_eq]at A
  exact⟨aS,0,aM,Nat.le_refl _,A,h⟩
 | m+1,B,u,h=>by
  obtain⟨aS,aM,⟨A,h⟩ | ⟨_,h⟩⟩:=Y_ u h
  ·rw[eQ,beq_iff_eq]at A
   exact⟨aS,m+1,aM,Nat.le_refl _,A,h⟩
  ·obtain⟨aui,j,E,h3,h4,h5⟩:=Y8 m aM h
   exact⟨aui,j,E,by omega,h4,h5⟩
def sf {ao:Type} (e:U) (n:Nat) (B:J) (k:J->Nat->T ao):T ao :=
 match e with
 | .lit j=>if decide (0<=j)&&Nat.ble j.toNat n then k B j.toNat else(.fail [])
 | e=>KK e k n B
theorem zh {ao:Type} {ρ:aa} {e:U} {k:J->Nat->T ao} {a:ao} {n:Nat} {B:J} (u:J.ok ρ B) (h:(sf e n B k).aq ρ=some a):∃aS j,J.ok ρ aS/\j<=n/\e.I ρ=(j:Nat)/\(k aS j).aq ρ=some a:=by
 unfold sf at h
 split at h
 ·split at h
  ·rename_i j H
   simp only[Bool.and_eq_true,decide_eq_true_eq,Nat.ble_eq]at H
   exact⟨B,j.toNat,u,H.2,by simp only[U.I];omega,h⟩
  ·cases h
 ·exact Y8 n u h
def nU:Option X->U->Option U
 | none,d=>some d
 | some (.sc (.i _ e)),_=>some e
 | _,_=>none
theorem kS {ρ:aa} {x:Option X} {d e:U} {d9:Nat} (h:nU x d=some e) (hd:d.I ρ=d9) {j:Nat} (G:e.I ρ=j):lU d9 (x.map (X.I ρ))=some j:=by
 unfold nU at h
 split at h
 ·cases h
  simp only[Option.map_none,lU,Option.some.injEq];omega
 ·cases h
  simp only[Option.map_some,X.I,Sc.I,lU,G]
  rw[if_pos (by omega),Int.toNat_natCast]
 ·cases h
def p4 (i:TI):X->U
 | .ro _ D _ => .lit D.length
 | .rl _ n _ _=>n
 | .sl _ _ _ len _ => .lit len
 | .ptr _ _ _=>match i.arr with | some (len,_) => .lit len | none => .lit 0
 | .sc (.s t)=>s7 t
 | _ => .lit 0
def XK (n:Nm) (z l k:Nat):List (BE×Nat)->Nat->Option X
 | [],d=>some (.sl n z (d+l*z) k false)
 | _,_=>none
def P9 (i:TI) (h:au) (B:J) (x:X) (lo hi:U) (hn:Bool):T X :=
 match x with
 | .ro z D full=>match i.sl with
  | some (_,z')=>if Nat.beq z' z=true then sf hi D.length B fun B W=>sf lo W B fun _ l => .ret (.ro z ((D.take W).drop l) (full&&Nat.beq W D.length))else(.fail [])
  | none=>(.fail [])
 | .rl z n l full=>match i.sl with
  | some (_,z')=>if Nat.beq z' z=true then
    want B (mkNot (mkLt lo (.lit 0))) fun B=>want B (mkNot (mkLt (mkSub hi lo) (.lit 0))) fun B=>want B (mkNot (mkLt n hi)) fun _ =>
     .ret (.rl z (mkSub hi lo) (match lo with | .lit 0=>l | lo => .drop lo l) (full&&hn))
   else(.fail [])
  | none=>(.fail [])
 | .sl n z off len own=>match i.sl with
  | some (_,z')=>if(Nat.beq z' z&&iu h n)=true then sf hi len B fun B W=>sf lo W B fun _ l => .ret (.sl n z (off+l*z) (W-l) own)else(.fail [])
  | none=>(.fail [])
 | .ptr n aG d=>match i.arr with
  | some (len,z)=>if iu h n=true then sf hi len B fun B W=>sf lo W B fun _ l=>eH (XK n z l (W-l) aG d)else(.fail [])
  | none=>(.fail [])
 | .sc (.s t)=>if i.str=true then
   want B (mkNot (mkLt lo (.lit 0))) fun B=>want B (mkNot (mkLt hi lo)) fun B=>want B (mkNot (mkLt (s7 t) hi)) fun _ =>
    .ret (.sc (.s (if(lo.beq (.lit 0)&&hi.beq (s7 t))=true then t else .sub t lo hi)))
  else(.fail [])
 | .k (.slice none 0 0)=>match i.sl with
  | some _=>want B (mkEq lo (.lit 0)) fun B=>want B (mkEq hi (.lit 0)) fun _ => .ret (.k (.slice none 0 0))
  | none=>(.fail [])
 | _=>(.fail [])
theorem aqT {ρ:aa} {n hi lo:U} {l:RL} {a b:Nat} (A:lo.I ρ=a) (E:hi.I ρ=b) (h3:(b:Int)<=n.I ρ) (xK:a<=b) (m:RL) (hm:∀j:Nat,m.row ρ j=l.row ρ ((j+a:Nat):Int)) :
  aV ρ (mkSub hi lo) m=((aV ρ n l).take b).drop a:=by
 unfold aV
 apply List.ext_getElem?
 intro j
 rw[ng,A,E,List.getElem?_drop,List.getElem?_take,List.getElem?_map,List.getElem?_map]
 by_cases O:j<b-a
 ·rw[List.getElem?_range (by omega),if_pos (by omega),List.getElem?_range (by omega)]
  simp only[Option.map_some,Option.some.injEq]
  rw[hm j,Nat.add_comm]
 ·rw[List.getElem?_eq_none (by simp;omega)]
  by_cases Mc:a+j<b
  ·omega
  ·rw[if_neg Mc];rfl
theorem HP {C:Ctx} {z:Nat} {D:List (List AV)} {f f':Bool} (hf:f'=true->f=true) {Y:Value} (h:aj C (.ro z D f) Y):aj C (.ro z D f') Y:=by
 obtain⟨ab,cap,A,E,h3,h4⟩:=hv.1 h
 exact hv.2 ⟨ab,cap,A,E,fun W=>h3 (hf W),h4⟩
def bT (a b:AV):Prop:=∀(C:Ctx) (Y:Value),aj C b Y->aj C a Y
theorem bT.refl (a:AV):bT a a:=fun _ _ h=>h
theorem bT.top (b:AV):bT .top b:=fun _ _ _=>by simp only[aj]
theorem bT.of_eq {a b:AV} (h:a=b):bT a b:=by subst h;exact bT.refl a
theorem arC {P:Program} {ρ:aa} {ty:TypeId} {h:au} {B:J} {x v:X} {lo hi:Option X} {l r:U} (u:J.ok ρ B) (M:nU lo (.lit 0)=some l) (hr:nU hi (p4 (cr P ty) x)=some r)
  (R:(P9 (cr P ty) h B x l r hi.isNone).aq ρ=some v):∃w,pS P (aO ρ h) ty (x.I ρ) (lo.map (X.I ρ)) (hi.map (X.I ρ)) none=some w/\bT (v.I ρ) w:=by
 unfold P9 at R
 simp only[pS]
 split at R
 ·split at R
  ·rename_i z D full _ ee z' ha
   have dz:bE P ty=some (ee,z'):=ha
   split at R
   ·rename_i hz
    have hz:=Nat.eq_of_beq_eq_true hz
    subst hz
    obtain⟨fd,b,bp,hb,iN,R⟩:=zh u R
    obtain⟨lw,a,dO,Ba,iK,R⟩:=zh bp R
    cases R
    have e1:=kS (ρ:=ρ) M (d9:=0) (by simp[U.I]) iK
    have e2:=kS (ρ:=ρ) hr (d9:=kM P ty ((X.ro z' D full).I ρ)) (by simp[U.I,p4,X.I,kM,X.eg]) iN
    rw[e1,e2]
    have hlen:(X.aX ρ D).length=D.length:=by simp[X.eg]
    simp only[rD,X.I,dz,hlen]
    rw[if_pos ⟨trivial,Ba,hb⟩]
    refine⟨_,rfl,bT.of_eq ?_⟩
    have L0:(Nat.beq b D.length)=(b==D.length):=WB _ _
    simp only[X.eg,List.map_drop,List.map_take,L0]
   ·cases R
  ·cases R
 ·split at R
  ·rename_i z n rl full _ ee z' ha
   have dz:bE P ty=some (ee,z'):=ha
   split at R
   ·rename_i hz
    have hz:=Nat.eq_of_beq_eq_true hz
    subst hz
    obtain⟨fd,bp,c1,R⟩:=cX u R
    obtain⟨lw,dO,c2,R⟩:=cX bp R
    obtain⟨zI,qC,c3,R⟩:=cX dO R
    cases R
    have c1:=eG c1
    have c2:=eG c2
    have c3:=eG c3
    rw[ng]at c2
    simp only[U.I]at c1 c2
    obtain⟨a,iK⟩:∃a:Nat,l.I ρ=a:=⟨(l.I ρ).toNat,by omega⟩
    obtain⟨b,iN⟩:∃b:Nat,r.I ρ=b:=⟨(r.I ρ).toNat,by omega⟩
    have hlen:(aV ρ n rl).length=(n.I ρ).toNat:=by simp[aV]
    have e1:=kS (ρ:=ρ) M (d9:=0) (by simp[U.I]) iK
    have e2:=kS (ρ:=ρ) hr (d9:=kM P ty ((X.rl z' n rl full).I ρ)) (by simp only[p4,X.I,kM,hlen];omega) iN
    rw[e1,e2]
    simp only[rD,X.I,dz,hlen]
    rw[if_pos ⟨trivial,by omega,by omega⟩]
    refine⟨_,rfl,?_⟩
    rw[aqT (n:=n) (l:=rl) iK iN (by omega) (by omega) _ (fun j => ?_)]
    ·intro C Y hu
     refine HP (fun hf => ?_) hu
     simp only[Bool.and_eq_true]at hf ⊢
     refine⟨hf.1,?_⟩
     cases hi with
     | some y=>simp at hf
     | none =>
      simp only[nU,p4,Option.some.injEq]at hr
      subst hr
      simp only[beq_iff_eq];omega
    ·split
     ·simp only[U.I]at iK
      rw[show j+a=j from by omega]
     ·simp only[RL.row,iK]
      congr 1
   ·cases R
  ·cases R
 ·split at R
  ·rename_i n z off len own _ ee z' ha
   have dz:bE P ty=some (ee,z'):=ha
   split at R
   ·rename_i hz
    simp only[Bool.and_eq_true]at hz
    have BK:=Nat.eq_of_beq_eq_true hz.1
    subst BK
    obtain⟨fd,b,bp,hb,iN,R⟩:=zh u R
    obtain⟨lw,a,dO,Ba,iK,R⟩:=zh bp R
    cases R
    have e1:=kS (ρ:=ρ) M (d9:=0) (by simp[U.I]) iK
    have e2:=kS (ρ:=ρ) hr (d9:=kM P ty ((X.sl n z' off len own).I ρ)) (by simp[U.I,p4,X.I,kM]) iN
    rw[e1,e2]
    simp only[rD,X.I,dz]
    rw[if_pos ⟨trivial,jE hz.2,Ba,hb⟩]
    exact⟨_,rfl,bT.refl _⟩
   ·cases R
  ·cases R
 ·split at R
  ·rename_i n aG d _ len z ha
   have dz:ep P ty=some (len,z):=ha
   split at R
   ·rename_i hz
    obtain⟨fd,b,bp,hb,iN,R⟩:=zh u R
    obtain⟨lw,a,dO,Ba,iK,R⟩:=zh bp R
    have R:=e6 R
    unfold XK at R
    split at R
    ·cases R
     have e1:=kS (ρ:=ρ) M (d9:=0) (by simp[U.I]) iK
     have e2:=kS (ρ:=ρ) hr (d9:=kM P ty ((X.ptr n [] d).I ρ)) (by simp[U.I,p4,X.I,kM,dz,ha]) iN
     rw[e1,e2]
     simp only[rD,X.I,dz,choose]
     rw[if_pos ⟨jE hz,Ba,hb⟩]
     exact⟨_,rfl,bT.refl _⟩
    ·cases R
   ·cases R
  ·cases R
 ·split at R
  ·rename_i t hs
   have cu:nv P ty=true:=hs
   obtain⟨fd,bp,c1,R⟩:=cX u R
   obtain⟨lw,dO,c2,R⟩:=cX bp R
   obtain⟨zI,qC,c3,R⟩:=cX dO R
   cases R
   have c1:=eG c1
   have c2:=eG c2
   have c3:=eG c3
   rw[yF]at c3
   simp only[U.I]at c1
   obtain⟨a,iK⟩:∃a:Nat,l.I ρ=a:=⟨(l.I ρ).toNat,by omega⟩
   obtain⟨b,iN⟩:∃b:Nat,r.I ρ=b:=⟨(r.I ρ).toNat,by omega⟩
   have e1:=kS (ρ:=ρ) M (d9:=0) (by simp[U.I]) iK
   have e2:=kS (ρ:=ρ) hr (d9:=kM P ty ((X.sc (.s t)).I ρ)) (by simp only[p4,X.I,Sc.I,kM,yF]) iN
   rw[e1,e2]
   simp only[rD,X.I,Sc.I,cu]
   rw[if_pos ⟨trivial,by omega,by omega⟩]
   refine⟨_,rfl,bT.of_eq ?_⟩
   split
   ·rename_i H
    simp only[Bool.and_eq_true]at H
    have A:=U.beq_eq _ _ H.1
    have E:=U.beq_eq _ _ H.2
    subst A E
    rw[yF]at iN
    simp only[U.I]at iK
    have Fi:a=0:=by omega
    have n8:b=(t.I ρ).size:=by omega
    rw[Fi,n8,ByteArray.extract_zero_size]
   ·simp only[TE.I,iK,iN,Int.toNat_natCast]
  ·cases R
 ·split at R
  ·rename_i TR ha
   have dz:bE P ty=some TR:=ha
   obtain⟨fd,bp,c1,R⟩:=cX u R
   obtain⟨lw,dO,c2,R⟩:=cX bp R
   cases R
   rw[eQ]at c1 c2
   have c1:l.I ρ=(0:Nat):=by simpa [U.I]using c1
   have c2:r.I ρ=(0:Nat):=by simpa [U.I]using c2
   have e1:=kS (ρ:=ρ) M (d9:=0) (by simp[U.I]) c1
   have e2:=kS (ρ:=ρ) hr (d9:=kM P ty ((X.k (.slice none 0 0)).I ρ)) (by simp[p4,X.I,kM,U.I]) c2
   rw[e1,e2]
   simp only[rD,X.I,dz]
   exact⟨_,rfl,bT.refl _⟩
  ·cases R
 ·cases R
def B0:X->Option Nat
 | .sc (.i _ (.lit n))=>if 0<=n then some n.toNat else none
 | _=>none
theorem NC {ρ:aa} {x:X} {n:Nat} (h:B0 x=some n):lU 0 (some (x.I ρ))=some n:=by
 unfold B0 at h
 split at h
 ·split at h
  ·rename_i h0
   cases h
   simp only[X.I,Sc.I,U.I,lU]
   rw[if_pos h0]
  ·cases h
 ·cases h
def P7 (i:TI) (h:au) (x:X) (lo:Option X) (hi mx:X):Option X :=
 match(match lo with | none=>some 0 | some v=>B0 v),B0 hi,B0 mx with
 | some l,some W,some m=>match x with
  | .ro z D _=>match i.sl with
   | some (_,z')=>if(Nat.beq z' z&&(Nat.ble l W&&(Nat.ble W m&&Nat.ble m D.length)))=true then some (.ro z ((D.take W).drop l) (Nat.beq m W))else none
   | none=>none
  | .sl n z _ len _=>match i.sl with
   | some (_,z')=>if(Nat.beq z' z&&(iu h n&&(Nat.beq W l&&(Nat.beq m l&&Nat.ble l len))))=true then some (.ro z [] true)else none
   | none=>none
  | _=>none
 | _,_,_=>none
theorem arA {P:Program} {ρ:aa} {ty:TypeId} {h:au} {x hi mx v:X} {lo:Option X} (R:P7 (cr P ty) h x lo hi mx=some v):pS P (aO ρ h) ty (x.I ρ) (lo.map (X.I ρ)) (some (hi.I ρ)) (some (mx.I ρ))=some (v.I ρ):=by
 unfold P7 at R
 split at R
 ·rename_i l W m A E h3
  have e1:lU 0 (lo.map (X.I ρ))=some l:=by
   cases lo with
   | none=>cases A;rfl
   | some w=>exact NC A
  have e2:=NC (ρ:=ρ) E
  have e3:=NC (ρ:=ρ) h3
  simp only[pS,e1,e2,e3,Ie]
  split at R
  ·rename_i z D f
   split at R
   ·rename_i ee z' ha
    have dz:bE P ty=some (ee,z'):=ha
    split at R
    ·rename_i H
     cases R
     simp only[Bool.and_eq_true,Nat.ble_eq]at H
     obtain⟨c1,c2,c3,dy⟩:=H
     have c1:=Nat.eq_of_beq_eq_true c1
     simp only[X.I,dz]
     have hlen:(X.aX ρ D).length=D.length:=by simp[X.eg]
     rw[if_pos ⟨c1,c2,c3,by rw[hlen];exact dy⟩]
     have:Nat.beq m W=(m==W):=by rw[Bool.eq_iff_iff];simp
     rw[this]
     simp[X.eg,List.map_take,List.map_drop]
    ·cases R
   ·cases R
  ·rename_i n z off len own
   split at R
   ·rename_i ee z' ha
    have dz:bE P ty=some (ee,z'):=ha
    split at R
    ·rename_i H
     cases R
     simp only[Bool.and_eq_true,Nat.ble_eq]at H
     obtain⟨c1,c2,c3,dy,t7⟩:=H
     simp only[X.I,dz]
     rw[if_pos ⟨Nat.eq_of_beq_eq_true c1,jE c2,Nat.eq_of_beq_eq_true c3,Nat.eq_of_beq_eq_true dy,t7⟩]
     rfl
    ·cases R
   ·cases R
  ·cases R
 ·cases R
end Go.Proofs.Xw
namespace Go.Proofs.Xw
open Go Go.Proofs.Aw
def iY (k k':IntKind) (x:X):T X:=if ml k k'=true then .ret x else(.fail [])
def M0 (op:BinOp) (B:J) (k:IntKind) (a:U) (k':IntKind) (b:U):T X :=
 match op with
 | .add=>iY k k' (.sc (.i k (hQ .add k a b)))
 | .sub=>iY k k' (.sc (.i k (hQ .sub k a b)))
 | .mul=>iY k k' (.sc (.i k (hQ .mul k a b)))
 | .and=>iY k k' (.sc (.i k (hQ .and k a b)))
 | .or=>iY k k' (.sc (.i k (hQ .or k a b)))
 | .xor=>iY k k' (.sc (.i k (hQ .xor k a b)))
 | .andNot=>iY k k' (.sc (.i k (hQ .andNot k a b)))
 | .lss=>iY k k' (.sc (.b (mkLt a b)))
 | .leq=>iY k k' (.sc (.b (mkNot (mkLt b a))))
 | .gtr=>iY k k' (.sc (.b (mkLt b a)))
 | .geq=>iY k k' (.sc (.b (mkNot (mkLt a b))))
 | .eql=>iY k k' (.sc (.b (mkEq a b)))
 | .neq=>iY k k' (.sc (.b (mkNot (mkEq a b))))
 | .quo=>want B (mkNot (mkEq b (.lit 0))) fun _=>iY k k' (.sc (.i k (hQ .quo k a b)))
 | .rem=>want B (mkNot (mkEq b (.lit 0))) fun _=>iY k k' (.sc (.i k (hQ .rem k a b)))
 | .shl=>want B (mkNot (mkLt b (.lit 0))) fun _ => .ret (.sc (.i k (hQ .shl k a b)))
 | .shr=>want B (mkNot (mkLt b (.lit 0))) fun _ => .ret (.sc (.i k (hQ .shr k a b)))
theorem P4 {ρ:aa} {k k':IntKind} {x v:X} (h:(iY k k' x).aq ρ=some v):k=k'/\v=x:=by
 unfold iY at h
 split at h
 ·rename_i u;cases h;exact⟨om u,rfl⟩
 ·cases h
theorem ad0 {a b:Int}:(!decide (a<b))=decide (b<=a):=by
 rw[Bool.eq_iff_iff];simp
theorem agP {ρ:aa} {op:BinOp} {B:J} {k k':IntKind} {a b:U} {v:X} (u:J.ok ρ B) (h:(M0 op B k a k' b).aq ρ=some v):(qO op k (a.I ρ) k' (b.I ρ)).map AV.sc=some (v.I ρ):=by
 cases op<;>simp only[M0]at h
 case quo =>
  obtain⟨_,_,A,h⟩:=cX u h
  obtain⟨rfl,rfl⟩:=P4 h
  rw[et,eQ]at A
  have ay:b.I ρ≠0:=by simpa [U.I]using A
  simp[qO,ay,X.I,Sc.I,ow,a7.I]
 case rem =>
  obtain⟨_,_,A,h⟩:=cX u h
  obtain⟨rfl,rfl⟩:=P4 h
  rw[et,eQ]at A
  have ay:b.I ρ≠0:=by simpa [U.I]using A
  simp[qO,ay,X.I,Sc.I,ow,a7.I]
 case shl =>
  obtain⟨_,_,A,h⟩:=cX u h
  cases h
  have A:=eG A
  simp only[U.I]at A
  have ay:0<=b.I ρ:=by omega
  simp[qO,ay,X.I,Sc.I,ow,a7.I]
 case shr =>
  obtain⟨_,_,A,h⟩:=cX u h
  cases h
  have A:=eG A
  simp only[U.I]at A
  have ay:0<=b.I ρ:=by omega
  simp[qO,ay,X.I,Sc.I,ow,a7.I]
 all_goals
  obtain⟨rfl,rfl⟩:=P4 h
  simp only[qO,if_true,Option.map_some,X.I,Sc.I,ow,a7.I,gY,et,eQ,ad0]
def Qk (op:BinOp) (a b:TE):Option X :=
 match op with
 | .eql=>some (.sc (.b (mkSeq a b)))
 | .neq=>some (.sc (.b (mkNot (mkSeq a b))))
 | .lss=>some (.sc (.b (.slt a b)))
 | .leq=>some (.sc (.b (mkOr (.slt a b) (mkSeq a b))))
 | .gtr=>some (.sc (.b (mkNot (mkOr (.slt a b) (mkSeq a b)))))
 | .geq=>some (.sc (.b (mkNot (.slt a b))))
 | _=>none
theorem arX {ρ:aa} {op:BinOp} {a b:TE} {v:X} (h:Qk op a b=some v):(CX op (a.I ρ) (b.I ρ)).map AV.sc=some (v.I ρ):=by
 cases op<;>simp only[Qk,Option.some.injEq,reduceCtorEq]at h<;>subst h<;>simp only[CX,Option.map_some,X.I,Sc.I,N4,et,ox,BE.I]
def mQ:List Nat->List X->List X->Option BE
 | [],[],[]=>some (.lit true)
 | k::ks,a::aG,b::bs =>
  match k,a,b with
  | 0,.sc (.b x),.sc (.b y)=>(mQ ks aG bs).map fun r=>mkAnd (mkIff x y) r
  | 1,.sc (.i i x),.sc (.i j y)=>if ml i j=true then(mQ ks aG bs).map fun r=>mkAnd (mkEq x y) r else none
  | 2,.sc (.s x),.sc (.s y)=>(mQ ks aG bs).map fun r=>mkAnd (mkSeq x y) r
  | _,_,_=>none
 | _,_,_=>none
theorem Au {ρ:aa}:∀{l:List Nat} {xs ys:List X} {e:BE},mQ l xs ys=some e->ai l (X.af ρ xs) (X.af ρ ys)=some (e.I ρ)
 | [],[],[],e,h=>by simp only[mQ,Option.some.injEq]at h;subst h;rfl
 | k::ks,a::aG,b::bs,e,h=>by
  simp only[mQ]at h
  split at h
  ·obtain⟨r,hr,rfl⟩:=Option.map_eq_some_iff.1 h
   simp only[X.af,X.I,Sc.I,ai,Au hr,Option.map_some,fM,Gz]
  ·split at h
   ·rename_i u
    obtain⟨r,hr,rfl⟩:=Option.map_eq_some_iff.1 h
    have u:=om u
    simp only[X.af,X.I,Sc.I,ai,Au hr,Option.map_some,fM,eQ,u,if_true]
   ·cases h
  ·obtain⟨r,hr,rfl⟩:=Option.map_eq_some_iff.1 h
   simp only[X.af,X.I,Sc.I,ai,Au hr,Option.map_some,fM,N4]
  ·cases h
 | [],[],_::_,_,h=>by simp[mQ]at h
 | [],_::_,_,_,h=>by simp[mQ]at h
 | _::_,[],_,_,h=>by simp[mQ]at h
 | _::_,_::_,[],_,h=>by simp[mQ]at h
def JO (e:U):BE:=mkAnd (mkLt (.lit (-9007199254740992)) e) (mkLt e (.lit 9007199254740992))
theorem ade {ρ:aa} {e:U} (h:(JO e).I ρ=true):(e.I ρ).natAbs<2 ^ 53:=by
 unfold JO at h
 rw[fM,gY,gY,Bool.and_eq_true]at h
 have A:=of_decide_eq_true h.1
 have E:=of_decide_eq_true h.2
 simp only[U.I]at A E
 omega
def g' (B:J) (k:T X):List U->T X
 | []=>k
 | e::l=>want B (JO e) fun _=>g' B k l
theorem hZ {ρ:aa} {B:J} {k:T X} {v:X} (u:J.ok ρ B):∀{l:List U},(g' B k l).aq ρ=some v->(∀e∈l,(e.I ρ).natAbs<2 ^ 53)/\k.aq ρ=some v
 | [],h=>⟨(fun _ G=>by cases G),h⟩
 | e::l,h=>by
  obtain⟨_,_,A,E⟩:=cX u h
  obtain⟨g1,g2⟩:=hZ u E
  exact⟨fun d hd=>by
   rcases List.mem_cons.1 hd with rfl | hd
   ·exact ade A
   ·exact g1 d hd,g2⟩
structure Fl where
 n:U
 z:BE
noncomputable def Fl.I (ρ:aa) (a:Fl):Nat:=fv (a.n.I ρ) (a.z.I ρ)
theorem Uc {n:Int} {a b:Bool} (h:n=0->a=b):fv n a=fv n b:=by
 by_cases h0:n=0
 ·rw[h h0]
 ·simp only[fv,a6,h0,if_false]
def Fl.add (a b:Fl):Fl:=⟨mkAdd a.n b.n,mkAnd (mkAnd a.z b.z) (mkEq a.n (.lit 0))⟩
def Fl.sub (a b:Fl):Fl:=⟨mkSub a.n b.n,mkAnd (mkAnd a.z (mkNot b.z)) (mkEq a.n (.lit 0))⟩
def Ia (n:U) (z:BE):BE:=iq (mkEq n (.lit 0)) z (mkLt n (.lit 0))
theorem ary (ρ:aa) (n:U) (z:BE):(Ia n z).I ρ=a6 (n.I ρ) (z.I ρ):=by
 unfold Ia a6
 rw[kx,eQ,gY]
 simp only[U.I,beq_iff_eq]
 by_cases h:n.I ρ=0
 ·simp[h]
 ·rw[if_neg h,if_neg h];rfl
def Rb (a b:BE):BE:=mkNot (mkIff a b)
theorem aue (ρ:aa) (a b:BE):(Rb a b).I ρ=(a.I ρ ^^ b.I ρ):=by
 unfold Rb
 rw[et,Gz]
 cases a.I ρ<;>cases b.I ρ<;>rfl
def Fl.mul (a b:Fl):Fl:=⟨mkMul a.n b.n,Rb (Ia a.n a.z) (Ia b.n b.z)⟩
section
variable {ρ:aa} {a b:Fl}
theorem Fl.D2 (ha:(a.n.I ρ).natAbs<2 ^ 53) (hb:(b.n.I ρ).natAbs<2 ^ 53) (hs:((a.add b).n.I ρ).natAbs<2 ^ 53):Ieee.double.add (a.I ρ) (b.I ρ)=some ((a.add b).I ρ):=by
 simp only[Fl.add,fe]at hs
 simp only[Fl.I,Fl.add,fe,fM,eQ,U.I]
 rw[aeS ha hb hs]
 congr 1
 refine Uc fun h0 => ?_
 unfold a6
 by_cases A:a.n.I ρ=0
 ·rw[if_pos A,if_pos (by omega)];simp[A]
 ·rw[if_neg A,if_neg (by omega)]
  have:(a.n.I ρ==0)=false:=by simpa using A
  rw[this,Bool.and_false]
  by_cases E:a.n.I ρ<0
  ·rw[decide_eq_false (show ¬b.n.I ρ<0 by omega),Bool.and_false]
  ·rw[decide_eq_false E,Bool.false_and]
theorem Fl.Im (ha:(a.n.I ρ).natAbs<2 ^ 53) (hb:(b.n.I ρ).natAbs<2 ^ 53) (hs:((a.sub b).n.I ρ).natAbs<2 ^ 53):Ieee.double.sub (a.I ρ) (b.I ρ)=some ((a.sub b).I ρ):=by
 simp only[Fl.sub,ng]at hs
 simp only[Fl.I,Fl.sub,ng,fM,et,eQ,U.I]
 rw[afe ha hb hs]
 congr 1
 refine Uc fun h0 => ?_
 unfold a6
 by_cases A:a.n.I ρ=0
 ·rw[if_pos A,if_pos (by omega)];simp[A]
 ·rw[if_neg A,if_neg (by omega)]
  have:(a.n.I ρ==0)=false:=by simpa using A
  rw[this,Bool.and_false]
  by_cases E:a.n.I ρ<0
  ·rw[decide_eq_true (show b.n.I ρ<0 by omega)];simp
  ·rw[decide_eq_false E,Bool.false_and]
theorem Fl.Ce (ha:(a.n.I ρ).natAbs<2 ^ 53) (hb:(b.n.I ρ).natAbs<2 ^ 53) (hs:((a.mul b).n.I ρ).natAbs<2 ^ 53):Ieee.double.mul (a.I ρ) (b.I ρ)=some ((a.mul b).I ρ):=by
 simp only[Fl.mul,yD]at hs
 simp only[Fl.I,Fl.mul,yD,aue,ary]
 exact ae6 ha hb hs
theorem Fl.pI (ha:(a.n.I ρ).natAbs<2 ^ 53) (hb:(b.n.I ρ).natAbs<2 ^ 53):Ieee.double.order (a.I ρ) (b.I ρ)=some (compare (a.n.I ρ) (b.n.I ρ)):=ae8 ha hb
end
theorem uB (n m:Int):(some (compare n m)==some Ordering.lt)=decide (n<m):=by
 by_cases h:n<m
 ·simp[compare,compareOfLessAndEq,h]
 ·by_cases E:n=m<;>simp[compare,compareOfLessAndEq,h,E]
theorem J' (n m:Int):(some (compare n m)==some Ordering.gt)=decide (m<n):=by
 by_cases h:n<m
 ·simp[compare,compareOfLessAndEq,h];omega
 ·by_cases E:n=m
  ·simp[compare,compareOfLessAndEq,E]
  ·simp[compare,compareOfLessAndEq,h,E];omega
theorem uA (n m:Int):(some (compare n m)==some Ordering.eq)=(n==m):=by
 by_cases h:n<m
 ·simp[compare,compareOfLessAndEq,h];omega
 ·by_cases E:n=m<;>simp[compare,compareOfLessAndEq,h,E]
def Lx (op:BinOp) (B:J) (a b:Fl):T X :=
 match op with
 | .add=>g' B (.ret (.sc (.f (a.add b).n (a.add b).z))) [a.n,b.n,(a.add b).n]
 | .sub=>g' B (.ret (.sc (.f (a.sub b).n (a.sub b).z))) [a.n,b.n,(a.sub b).n]
 | .mul=>g' B (.ret (.sc (.f (a.mul b).n (a.mul b).z))) [a.n,b.n,(a.mul b).n]
 | .eql=>g' B (.ret (.sc (.b (mkEq a.n b.n)))) [a.n,b.n]
 | .neq=>g' B (.ret (.sc (.b (mkNot (mkEq a.n b.n))))) [a.n,b.n]
 | .lss=>g' B (.ret (.sc (.b (mkLt a.n b.n)))) [a.n,b.n]
 | .leq=>g' B (.ret (.sc (.b (mkNot (mkLt b.n a.n))))) [a.n,b.n]
 | .gtr=>g' B (.ret (.sc (.b (mkLt b.n a.n)))) [a.n,b.n]
 | .geq=>g' B (.ret (.sc (.b (mkNot (mkLt a.n b.n))))) [a.n,b.n]
 | _ => .fail ["float"]
theorem le_iff (n m:Int):(decide (n<m)||n==m) = !decide (m<n):=by
 rw[Bool.eq_iff_iff];simp;omega
theorem afj (n m:Int):(decide (m<n)||n==m) = !decide (n<m):=by
 rw[Bool.eq_iff_iff];simp;omega
theorem ae5 {ρ:aa} {op:BinOp} {B:J} {a b:Fl} {v:X} (u:J.ok ρ B) (h:(Lx op B a b).aq ρ=some v):(eV op (a.I ρ) (b.I ρ)).map AV.sc=some (v.I ρ):=by
 cases op<;>simp only[Lx]at h
 case add =>
  obtain⟨g,h⟩:=hZ u h
  cases h
  simp only[eV,Fl.D2 (a:=a) (b:=b) (g _ (by simp)) (g _ (by simp)) (g _ (by simp))];rfl
 case sub =>
  obtain⟨g,h⟩:=hZ u h
  cases h
  simp only[eV,Fl.Im (a:=a) (b:=b) (g _ (by simp)) (g _ (by simp)) (g _ (by simp))];rfl
 case mul =>
  obtain⟨g,h⟩:=hZ u h
  cases h
  simp only[eV,Fl.Ce (a:=a) (b:=b) (g _ (by simp)) (g _ (by simp)) (g _ (by simp))];rfl
 case eql =>
  obtain⟨g,h⟩:=hZ u h
  cases h
  simp only[eV,Fl.pI (a:=a) (b:=b) (g _ (by simp)) (g _ (by simp)),uA,Option.map_some,X.I,Sc.I,eQ]
 case neq =>
  obtain⟨g,h⟩:=hZ u h
  cases h
  simp only[eV,Fl.pI (a:=a) (b:=b) (g _ (by simp)) (g _ (by simp)),bne,uA,Option.map_some,X.I,Sc.I,eQ,et]
 case lss =>
  obtain⟨g,h⟩:=hZ u h
  cases h
  simp only[eV,Fl.pI (a:=a) (b:=b) (g _ (by simp)) (g _ (by simp)),uB,Option.map_some,X.I,Sc.I,gY]
 case leq =>
  obtain⟨g,h⟩:=hZ u h
  cases h
  simp only[eV,Fl.pI (a:=a) (b:=b) (g _ (by simp)) (g _ (by simp)),uB,uA,le_iff,Option.map_some,X.I,Sc.I,gY,et]
 case gtr =>
  obtain⟨g,h⟩:=hZ u h
  cases h
  simp only[eV,Fl.pI (a:=a) (b:=b) (g _ (by simp)) (g _ (by simp)),J',Option.map_some,X.I,Sc.I,gY]
 case geq =>
  obtain⟨g,h⟩:=hZ u h
  cases h
  simp only[eV,Fl.pI (a:=a) (b:=b) (g _ (by simp)) (g _ (by simp)),J',uA,afj,Option.map_some,X.I,Sc.I,gY,et]
 all_goals cases h
def Ej (a b:Fl):X := .sc (.c a.n a.z b.n b.z)
theorem adu (ρ:aa) (a b:Fl):(Ej a b).I ρ = .sc (.complex .f64 (a.I ρ) (b.I ρ)):=rfl
def Kn (op:BinOp) (B:J) (a b c d:Fl):T X :=
 match op with
 | .add=>g' B (.ret (Ej (a.add c) (b.add d))) [a.n,c.n,(a.add c).n,b.n,d.n,(b.add d).n]
 | .sub=>g' B (.ret (Ej (a.sub c) (b.sub d))) [a.n,c.n,(a.sub c).n,b.n,d.n,(b.sub d).n]
 | .mul=>g' B (.ret (Ej ((a.mul c).sub (b.mul d)) ((a.mul d).add (b.mul c)))) [a.n,b.n,c.n,d.n,(a.mul c).n,(b.mul d).n,(a.mul d).n,(b.mul c).n,((a.mul c).sub (b.mul d)).n,((a.mul d).add (b.mul c)).n]
 | .eql=>g' B (.ret (.sc (.b (mkAnd (mkEq a.n c.n) (mkEq b.n d.n))))) [a.n,b.n,c.n,d.n]
 | .neq=>g' B (.ret (.sc (.b (mkNot (mkAnd (mkEq a.n c.n) (mkEq b.n d.n)))))) [a.n,b.n,c.n,d.n]
 | _ => .fail ["complex"]
theorem adP {ρ:aa} {op:BinOp} {B:J} {a b c d:Fl} {v:X} (u:J.ok ρ B) (h:(Kn op B a b c d).aq ρ=some v):(ql op (a.I ρ) (b.I ρ) (c.I ρ) (d.I ρ)).map AV.sc=some (v.I ρ):=by
 cases op<;>simp only[Kn]at h
 case add =>
  obtain⟨g,h⟩:=hZ u h
  cases h
  simp only[ql,Fl.D2 (a:=a) (b:=c) (g _ (by simp)) (g _ (by simp)) (g _ (by simp)),Fl.D2 (a:=b) (b:=d) (g _ (by simp)) (g _ (by simp)) (g _ (by simp))];rfl
 case sub =>
  obtain⟨g,h⟩:=hZ u h
  cases h
  simp only[ql,Fl.Im (a:=a) (b:=c) (g _ (by simp)) (g _ (by simp)) (g _ (by simp)),Fl.Im (a:=b) (b:=d) (g _ (by simp)) (g _ (by simp)) (g _ (by simp))];rfl
 case mul =>
  obtain⟨g,h⟩:=hZ u h
  simp only[T.aq,Option.some.injEq]at h
  subst h
  simp only[List.forall_mem_cons]at g
  obtain⟨g1,g2,g3,g4,g5,g6,g7,Ud,afg,g10,_⟩:=g
  have e1:=Fl.Ce (a:=a) (b:=c) g1 g3 g5
  have e2:=Fl.Ce (a:=b) (b:=d) g2 g4 g6
  have e3:=Fl.Ce (a:=a) (b:=d) g1 g4 g7
  have e4:=Fl.Ce (a:=b) (b:=c) g2 g3 Ud
  have iG:=Fl.Im (a:=a.mul c) (b:=b.mul d) g5 g6 afg
  have KG:=Fl.D2 (a:=a.mul d) (b:=b.mul c) g7 Ud g10
  simp only[ql,e1,e2,e3,e4,Km,iG,KG,adu,Option.map_some]
 case eql =>
  obtain⟨g,h⟩:=hZ u h
  cases h
  simp only[ql,Fl.pI (a:=a) (b:=c) (g _ (by simp)) (g _ (by simp)),Fl.pI (a:=b) (b:=d) (g _ (by simp)) (g _ (by simp)),uA,Option.map_some,X.I,Sc.I,eQ,fM]
 case neq =>
  obtain⟨g,h⟩:=hZ u h
  cases h
  simp only[ql,Fl.pI (a:=a) (b:=c) (g _ (by simp)) (g _ (by simp)),Fl.pI (a:=b) (b:=d) (g _ (by simp)) (g _ (by simp)),uA,Option.map_some,X.I,Sc.I,eQ,fM,et]
 all_goals cases h
def JM (i:TI) (B:J) (op:BinOp) (x y:X):T X :=
 match x,y with
 | .sc (.i k a),.sc (.i k' b)=>M0 op B k a k' b
 | .sc (.s a),.sc (.s b)=>eH (Qk op a b)
 | .sc (.b a),.sc (.b b)=>match i.w2,op with
  | true,.eql => .ret (.sc (.b (mkIff a b)))
  | true,.neq => .ret (.sc (.b (mkNot (mkIff a b))))
  | _,_=>(.fail [])
 | .sc (.f n z),.sc (.f m y)=>Lx op B ⟨n,z⟩ ⟨m,y⟩
 | .sc (.c n z m y),.sc (.c n' z' m' Dr)=>Kn op B ⟨n,z⟩ ⟨m,y⟩ ⟨n',z'⟩ ⟨m',Dr⟩
 | .agg xs,.agg ys=>match i.V',op with
  | some l,.eql=>eH ((mQ l xs ys).map fun e => .sc (.b e))
  | some l,.neq=>eH ((mQ l xs ys).map fun e => .sc (.b (mkNot e)))
  | _,_=>(.fail [])
 | _,_=>(.fail [])
theorem ada {P:Program} {ρ:aa} {ty:TypeId} {B:J} {op:BinOp} {x y v:X} (u:J.ok ρ B) (h:(JM (cr P ty) B op x y).aq ρ=some v):gp P op ty (x.I ρ) (y.I ρ)=some (v.I ρ):=by
 unfold JM at h
 split at h
 ·simp only[X.I,Sc.I,gp]
  exact agP u h
 ·simp only[X.I,Sc.I,gp]
  exact arX (e6 h)
 ·split at h
  ·rename_i hb
   have f0:w3 P ty=true:=hb
   cases h
   simp only[X.I,Sc.I,gp,f0,Gz]
  ·rename_i hb
   have f0:w3 P ty=true:=hb
   cases h
   simp only[X.I,Sc.I,gp,f0,Gz,et]
  ·cases h
 ·have g:=ae5 u h
  simp only[Fl.I]at g
  simp only[X.I,Sc.I,gp]
  exact g
 ·have g:=adP u h
  simp only[Fl.I]at g
  simp only[X.I,Sc.I,gp]
  exact g
 ·split at h
  ·rename_i l M
   have bX:vw P ty=some l:=M
   obtain⟨e,G,rfl⟩:=Option.map_eq_some_iff.1 (e6 h)
   simp only[X.I,Sc.I,gp,bX,Option.bind_some,Au G,Option.map_some]
  ·rename_i l M
   have bX:vw P ty=some l:=M
   obtain⟨e,G,rfl⟩:=Option.map_eq_some_iff.1 (e6 h)
   simp only[X.I,Sc.I,gp,bX,Option.bind_some,Au G,Option.map_some,et]
  ·cases h
 ·cases h
def QM (B:J) (op:UnOp):X->T X
 | .sc (.b e) => match op with | .not => .ret (.sc (.b (mkNot e))) | _ => .fail ["op"]
 | .sc (.i k e) => match op with | .neg => .ret (.sc (.i k (hQ .sub k (.lit 0) e))) | _ => .fail ["op"]
 | .sc (.f n z) => match op with | .neg => g' B (.ret (.sc (.f (mkSub (.lit 0) n) (mkNot z)))) [n] | _ => .fail ["op"]
 | .sc (.c n z m y) => match op with | .neg => g' B (.ret (.sc (.c (mkSub (.lit 0) n) (mkNot z) (mkSub (.lit 0) m) (mkNot y)))) [n, m] | _ => .fail ["op"]
 | _ => .fail ["op"]
theorem atB {ρ:aa} {B:J} {op:UnOp} {x v:X} (u:J.ok ρ B) (h:(QM B op x).aq ρ=some v):rN op (x.I ρ)=some (v.I ρ):=by
 unfold QM at h
 split at h
 ·split at h
  ·cases h;simp only[X.I,Sc.I,rN,et]
  ·cases h
 ·split at h
  ·cases h;simp only[X.I,Sc.I,rN,ow,a7.I,U.I]
  ·cases h
 ·split at h
  ·obtain⟨g,h⟩:=hZ u h
   cases h
   simp only[X.I,Sc.I,rN,ng,et,U.I,Ly (g _ List.mem_cons_self),Int.zero_sub]
  ·cases h
 ·split at h
  ·obtain⟨g,h⟩:=hZ u h
   cases h
   simp only[X.I,Sc.I,rN,ng,et,U.I,Ly (g _ List.mem_cons_self),Ly (g _ (List.mem_cons_of_mem _ List.mem_cons_self)),Int.zero_sub]
  ·cases h
 ·cases h
def N1 (k:IntKind):U->U
 | .lit n => .lit (k.wrap n)
 | e => .op .conv k e (.lit 0)
theorem aij (ρ:aa) (k:IntKind) (e:U):(N1 k e).I ρ=k.wrap (e.I ρ):=by
 unfold N1;split<;>simp[U.I,a7.I]
def Kk (B:J) (src dst:TI):X->T X
 | .sc (.i _ e)=>match dst.x',src.QN with
  | some k,true => .ret (.sc (.i k (N1 k e)))
  | none,true=>(match dst.fl with
   | true=>g' B (.ret (.sc (.f (fq B e) (.lit false)))) [fq B e]
   | false => .fail ["conv"])
  | _, _ => .fail ["conv"]
 | .sc (.f n _)=>match dst.x',src.QN with
  | some .i64,true=>g' B (.ret (.sc (.i .i64 n))) [n]
  | _, _ => .fail ["conv"]
 | _ => .fail ["conv"]
theorem agD {n:Int} (h:n.natAbs<2 ^ 53):IntKind.i64.min<=n/\n<=IntKind.i64.max:=by
 have e1:IntKind.i64.min = -9223372036854775808:=by decide
 have e2:IntKind.i64.max=9223372036854775807:=by decide
 rw[e1,e2]
 omega
theorem adM {P:Program} {ρ:aa} {B:J} {src dst:TypeId} {x v:X} (u:J.ok ρ B) (h:(Kk B (cr P src) (cr P dst) x).aq ρ=some v):w8 P src dst (x.I ρ)=some (v.I ρ):=by
 have x':∀{k:IntKind},MX P dst=some k->P.underlying dst=some (.int k):=fun aM=>by
  unfold MX at aM
  split at aM
  ·rename_i hd;cases aM;exact hd
  ·cases aM
 unfold Kk at h
 split at h
 ·split at h
  ·rename_i k bp hu
   have a3:(P.underlying src).isSome=true:=hu
   cases h
   simp only[X.I,Sc.I,w8,a3,if_true,uC,aij,x' bp]
  ·rename_i bp hu
   have a3:(P.underlying src).isSome=true:=hu
   split at h
   ·rename_i hf
    obtain⟨g,h⟩:=hZ u h
    cases h
    have fG:P.underlying dst=some (.float .f64):=by
     have hf:Lt P dst=true:=hf
     unfold Lt at hf
     split at hf
     ·assumption
     ·cases hf
    have g1:=g _ List.mem_cons_self
    simp only[X.I,Sc.I,w8,a3,if_true,uC,fG,BE.I]
    rw[Ck u]at g1 ⊢
    rw[ae7 _ g1]
   ·cases h
  ·cases h
 ·split at h
  ·rename_i bp hu
   have a3:(P.underlying src).isSome=true:=hu
   obtain⟨g,h⟩:=hZ u h
   cases h
   have g1:=g _ List.mem_cons_self
   simp only[X.I,Sc.I,w8,a3,if_true,uC,x' bp,ae1 g1,agD g1,and_self]
  ·cases h
 ·cases h
def Al:Builtin->List X->Option X
 | .real,[.sc (.c n z _ _)]=>some (.sc (.f n z))
 | .imag,[.sc (.c _ _ m y)]=>some (.sc (.f m y))
 | .complex,[.sc (.f n z),.sc (.f m y)]=>some (.sc (.c n z m y))
 | _,_=>none
theorem adO {ρ:aa} {b:Builtin} {xs:List X} {v:X} (h:Al b xs=some v):uD b (X.af ρ xs)=some (v.I ρ):=by
 unfold Al at h
 split at h
 ·cases h;rfl
 ·cases h;rfl
 ·cases h;rfl
 ·cases h
def AQ (place:Nat->Option (Nat×Nat)) (cells:List X):List (Nat×X)->Option (List X)
 | []=>some cells
 | (i,v)::r=>match place i with
  | none=>none
  | some (off,size)=>if(Nat.beq v.cells.length size&&(Nat.ble (off+size) cells.length&&v.cells.all X.one))=true then AQ place (tI cells off v.cells) r else none
noncomputable def mN (ρ:aa) (ps:List (Nat×X)):List (Nat×AV):=ps.map fun p=>(p.1,p.2.I ρ)
theorem TW {ρ:aa} {place:Nat->Option (Nat×Nat)}:∀{ps:List (Nat×X)} {cells cs:List X},AQ place cells ps=some cs->l_ place (X.af ρ cells) (mN ρ ps)=some (X.af ρ cs)
 | [],_,_,h=>by simp only[AQ,Option.some.injEq]at h;subst h;rfl
 | (i,v)::r,cells,cs,h=>by
  simp only[AQ]at h
  simp only[mN,List.map_cons,l_]
  split at h
  ·cases h
  ·rename_i off size hp
   rw[hp]
   simp only
   split at h
   ·rename_i H
    simp only[Bool.and_eq_true,Nat.ble_eq]at H
    rw[X.Ad ρ v H.2.2,X.f_,X.f_,if_pos ⟨Nat.eq_of_beq_eq_true H.1,H.2.1,X.nO ρ _ H.2.2⟩,<-Ii]
    exact TW h
   ·cases h
def XA (i:TI):Nat->Option (Nat×Nat) :=
 match i.arr,i.rc with
 | some (_,z),_=>fun j=>some (j*z,z)
 | none,some l=>fun j=>l[j]?
 | none,none=>fun _=>none
def JR (i:TI) (ps:List (Nat×X)):Option X :=
 match i.zero with
 | some zs=>if(i.arr.isSome||i.rc.isSome)=true then(AQ (XA i) (zs.map mz) ps).map .agg else none
 | none=>none
theorem G3 (ρ:aa) (l:List Value):X.af ρ (l.map mz)=l.map AV.sc:=by simp[X.l5,W3]
theorem adk {P:Program} {ρ:aa} {ty:TypeId} {ps:List (Nat×X)} {v:X} (h:JR (cr P ty) ps=some v):Ei P ty (mN ρ ps) (fz P ty)=some (v.I ρ):=by
 unfold JR at h
 split at h
 ·rename_i zs hz
  have jv:zeroV P ty=some zs:=hz
  split at h
  ·rename_i H
   obtain⟨cs,hf,rfl⟩:=Option.map_eq_some_iff.1 h
   rw[I9,jv]
   simp only[Option.map_some,Ei]
   have dA:((ep P ty).isSome||(jc P ty).isSome)=true:=H
   rw[if_pos dA,<-G3 ρ]
   have hp:XA (cr P ty)=placeOf P ty:=rfl
   rw[hp]at hf
   rw[TW hf];rfl
  ·cases h
 ·cases h
def xc (z:Nat):Nat->List (Nat×X)->Bool
 | _,[]=>true
 | k,(i,v)::r=>Nat.beq i k&&(Nat.beq v.cells.length z&&(v.cells.all X.one&&xc z (k+1) r))
theorem S4 {ρ:aa} {z:Nat}:∀{ps:List (Nat×X)} {k:Nat},xc z k ps=true->kX z k (mN ρ ps)=true
 | [],_,_=>rfl
 | (i,v)::r,k,h=>by
  simp only[xc,Bool.and_eq_true]at h
  simp only[mN,List.map_cons,kX,Bool.and_eq_true,beq_iff_eq,X.Ad ρ v h.2.2.1,X.f_]
  exact⟨Nat.eq_of_beq_eq_true h.1,Nat.eq_of_beq_eq_true h.2.1,X.nO ρ _ h.2.2.1,S4 h.2.2.2⟩
def vY:List (Nat×X)->List (List X)
 | []=>[]
 | (_,v)::r=>v.cells::vY r
theorem O2 (ρ:aa) {z:Nat}:∀(ps:List (Nat×X)) {k:Nat},xc z k ps=true->X.aX ρ (vY ps)=gC (mN ρ ps)
 | [],_,_=>rfl
 | (i,v)::r,k,h=>by
  simp only[xc,Bool.and_eq_true]at h
  simp only[vY,X.aX,mN,List.map_cons,gC,X.Ad ρ v h.2.2.1];rw[O2 ρ r h.2.2.2];rfl
def e_:List (List X)->List X
 | []=>[]
 | e::D=>e++e_ D
theorem qu (ρ:aa):∀D,X.af ρ (e_ D)=(X.aX ρ D).flatten
 | []=>rfl
 | e::D=>by simp only[e_,X.aX,List.flatten_cons,X.gq,qu ρ D]
def Rr (i:TI):Option Nat:=i.zero.map List.length
theorem auh (P:Program) (e:TypeId):Rr (cr P e)=nH P e:=by
 unfold Rr nH
 rw[I9]
 show(zeroV P e).map List.length=_
 cases zeroV P e with
 | none=>rfl
 | some l=>simp
def I' (i:TI) (z:Nat):Bool:=match Rr i with | some z'=>Nat.beq z' z | none=>false
theorem aa3 {P:Program} {e:TypeId} {z:Nat} (h:I' (cr P e) z=true):nH P e=some z:=by
 rw[<-auh]
 unfold I' at h
 split at h
 ·rename_i z' jv;rw[jv,Nat.eq_of_beq_eq_true h]
 ·cases h
def JQ (n:Nat) (mu:Bool) (i:TI) (ti:Nat->Option TI) (len:Nat) (ps:List (Nat×X)):Option (X×aL) :=
 match i.sl with
 | some (e,z)=>match ti e with
  | some ie=>if(I' ie z&&(Nat.ble (len*z) 16777216&&(Nat.beq ps.length len&&xc z 0 ps)))=true then
    (match mu with
    | false=>some (.ro z (vY ps) true,[])
    | true=>if b6 (e_ (vY ps))=true then none else some (.sl (n,0) z 0 len true,[((n,0),some (e_ (vY ps)))]))
   else none
  | none=>none
 | none=>none
def eL.ok (P:Program) (ti:Nat->Option TI):Prop:=∀t i,ti t=some i->i=cr P t
theorem adj {P:Program} {ρ:aa} {n:Nat} {mu:Bool} {ty:TypeId} {ti:Nat->Option TI} (a_:eL.ok P ti) {len:Nat} {ps:List (Nat×X)} {v:X} {d:aL} (h:JQ n mu (cr P ty) ti len ps=some (v,d)) :
  nV P n mu ty len (mN ρ ps)=some (v.I ρ,bk ρ d):=by
 unfold JQ at h
 split at h
 ·rename_i e z hs
  have cu:bE P ty=some (e,z):=hs
  split at h
  ·rename_i ie gx
   have gx:=a_ _ _ gx
   subst gx
   split at h
   ·rename_i H
    simp only[Bool.and_eq_true,Nat.ble_eq]at H
    obtain⟨A,E,h3,h4⟩:=H
    have hz:=aa3 A
    simp only[nV,cu,hz]
    rw[if_pos ⟨trivial,E,by simpa [mN]using Nat.eq_of_beq_eq_true h3,S4 h4⟩]
    cases mu with
    | false=>cases h;simp only[X.I,O2 ρ ps h4];rfl
    | true =>
     simp only at h
     split at h
     ·cases h
     ·rename_i hr
      cases h;simp only[X.I,bk,List.map_cons,List.map_nil,Option.map_some,cP (ρ:=ρ) (show b6 (e_ (vY ps))=false by simpa using hr),qu,O2 ρ ps h4]
   ·cases h
  ·cases h
 ·cases h
def Nv (i:TI) (h:au) (B:J):X->T X
 | .ro _ D _=>if i.sl.isSome=true then .ret (.sc (.i .i64 (.lit D.length)))else(.fail [])
 | .rl _ n _ _=>if i.sl.isSome=true then want B (mkNot (mkLt n (.lit 0))) fun _ => .ret (.sc (.i .i64 n))else(.fail [])
 | .rn _ n _ _ _=>if i.sl.isSome=true then want B (mkNot (mkLt n (.lit 0))) fun _ => .ret (.sc (.i .i64 n))else(.fail [])
 | .tq _ m _ D _=>if i.sl.isSome=true then want B (mkNot (mkLt m (.lit 0))) fun _ => .ret (.sc (.i .i64 (mkAdd m (.lit D.length))))else(.fail [])
 | .sl m _ _ len _=>if(i.sl.isSome&&iu h m)=true then .ret (.sc (.i .i64 (.lit len)))else(.fail [])
 | .k (.slice _ m _)=>if i.sl.isSome=true then .ret (.sc (.i .i64 (.lit m)))else(.fail [])
 | .sc (.s t)=>if i.str=true then .ret (.sc (.i .i64 (s7 t)))else(.fail [])
 | .agg _=>match i.arr with
  | some (n,_) => .ret (.sc (.i .i64 (.lit n)))
  | none=>(.fail [])
 | _=>(.fail [])
theorem ahL {P:Program} {ρ:aa} {ty:TypeId} {h:au} {B:J} {x v:X} (u:J.ok ρ B) (R:(Nv (cr P ty) h B x).aq ρ=some v):mo (i_ P (aO ρ h) ty (x.I ρ))=some (v.I ρ):=by
 unfold Nv at R
 split at R
 ·split at R
  ·rename_i hs
   have cu:(bE P ty).isSome=true:=hs
   cases R
   simp only[X.I,i_,cu,if_true,mo,Sc.I,U.I,X.eg,List.length_map]
  ·cases R
 ·split at R
  ·rename_i n l f hs
   have cu:(bE P ty).isSome=true:=hs
   obtain⟨_,_,A,R⟩:=cX u R
   cases R
   have A:=eG A
   simp only[U.I]at A
   have:((aV ρ n l).length:Int)=n.I ρ:=by simp only[aV,List.length_map,List.length_range];omega
   simp only[X.I,i_,cu,if_true,mo,Sc.I,this]
  ·cases R
 ·split at R
  ·rename_i n l ks f hs
   have cu:(bE P ty).isSome=true:=hs
   obtain⟨_,_,A,R⟩:=cX u R
   cases R
   have A:=eG A
   simp only[U.I]at A
   have:((fS ρ n l ks).length:Int)=n.I ρ:=by simp only[fS,List.length_map,List.length_range];omega
   simp only[X.I,i_,cu,if_true,mo,Sc.I,this]
  ·cases R
 ·split at R
  ·rename_i m t D f hs
   have cu:(bE P ty).isSome=true:=hs
   obtain⟨_,_,A,R⟩:=cX u R
   cases R
   have A:=eG A
   simp only[U.I]at A
   have:∀z,((bC ρ z m t++X.aX ρ D).length:Int)=(mkAdd m (.lit D.length)).I ρ:=fun z=>by
    rw[fe,List.length_append,we,X.eg,List.length_map]
    simp only[U.I];omega
   simp only[X.I,i_,cu,if_true,mo,Sc.I,this]
  ·cases R
 ·split at R
  ·rename_i m z off len own hs
   simp only[Bool.and_eq_true]at hs
   have cu:(bE P ty).isSome=true:=hs.1
   cases R
   simp only[X.I,i_,cu,jE hs.2,and_self,if_true,mo,Sc.I,U.I]
  ·cases R
 ·split at R
  ·rename_i hs
   have cu:(bE P ty).isSome=true:=hs
   cases R
   simp only[X.I,i_,cu,if_true,mo,Sc.I,U.I]
  ·cases R
 ·split at R
  ·rename_i hs
   have cu:nv P ty=true:=hs
   cases R
   simp only[X.I,i_,cu,if_true,mo,Sc.I,yF]
  ·cases R
 ·split at R
  ·rename_i n z hs
   have cu:ep P ty=some (n,z):=hs
   cases R
   simp only[X.I,i_,cu,Option.map_some,mo,Sc.I,U.I]
  ·cases R
 ·cases R
def N2 (a b:U):U:=if a.beq b=true then a else hQ .max .i64 a b
theorem aik (ρ:aa) (a b:U):(N2 a b).I ρ=Max.max (a.I ρ) (b.I ρ):=by
 unfold N2;split
 ·rename_i h;rw[U.beq_eq _ _ h];omega
 ·rw[ow];rfl
def N3 (a b:U):U:=if a.beq b=true then a else hQ .min .i64 a b
theorem ail (ρ:aa) (a b:U):(N3 a b).I ρ=Min.min (a.I ρ) (b.I ρ):=by
 unfold N3;split
 ·rename_i h;rw[U.beq_eq _ _ h];omega
 ·rw[ow];rfl
def B6:X->List X->Option X
 | .sc (.i k a),[]=>some (.sc (.i k a))
 | .sc (.i k a),.sc (.i _ b)::r=>B6 (.sc (.i k (N2 a b))) r
 | _,_=>none
theorem We {ρ:aa}:∀{l:List X} {x v:X},B6 x l=some v->px (x.I ρ) (X.af ρ l)=some (v.I ρ)
 | [],x,v,h=>by
  unfold B6 at h
  split at h
  ·cases h;simp only[X.af,X.I,Sc.I,px]
  ·contradiction
  ·cases h
 | y::r,x,v,h=>by
  unfold B6 at h
  split at h
  ·contradiction
  ·rename_i k a k' b r' G
   cases G
   have:=We (ρ:=ρ) h
   simp only[X.I,Sc.I,aik]at this
   simp only[X.af,X.I,Sc.I,px]
   exact this
  ·cases h
def B9:X->List X->Option X
 | .sc (.i k a),[]=>some (.sc (.i k a))
 | .sc (.i k a),.sc (.i _ b)::r=>B9 (.sc (.i k (N3 a b))) r
 | _,_=>none
theorem Wi {ρ:aa}:∀{l:List X} {x v:X},B9 x l=some v->py (x.I ρ) (X.af ρ l)=some (v.I ρ)
 | [],x,v,h=>by
  unfold B9 at h
  split at h
  ·cases h;simp only[X.af,X.I,Sc.I,py]
  ·contradiction
  ·cases h
 | y::r,x,v,h=>by
  unfold B9 at h
  split at h
  ·contradiction
  ·rename_i k a k' b r' G
   cases G
   have:=Wi (ρ:=ρ) h
   simp only[X.I,Sc.I,ail]at this
   simp only[X.af,X.I,Sc.I,py]
   exact this
  ·cases h
end Go.Proofs.Xw
namespace Go.Proofs.Xw
open Go Go.Proofs.Aw
inductive Rows where
 | c (D:List (List X))
 | r (n:U) (l:RL)
noncomputable def Rows.I (ρ:aa):Rows->List (List AV)
 | .c D=>X.aX ρ D
 | .r n l=>aV ρ n l
def nW (z:Nat):Nat->List X->List (List X)
 | 0,_=>[]
 | k+1,cs=>cs.take z::nW z k (cs.drop z)
theorem w7 (ρ:aa) (z:Nat):∀(k:Nat) (cs:List X),X.aX ρ (nW z k cs)=chunk z k (X.af ρ cs)
 | 0,_=>rfl
 | k+1,cs=>by simp only[nW,X.aX,chunk,X.Ks,w7 ρ z k,X.xa]
def EK (h:au) (z:Nat):X->Option Rows
 | .ro z' D _=>if Nat.beq z' z=true then some (.c D)else none
 | .rl z' n l _=>if Nat.beq z' z=true then some (.r n l)else none
 | .sl m z' off len _=>match ph h m with
  | some cs=>if(Nat.beq z' z&&Nat.ble (off+len*z) cs.length)=true then some (.c (nW z len (cs.drop off)))else none
  | none=>none
 | .k (.slice none 0 0)=>some (.c [])
 | _=>none
theorem Tr {ρ:aa} {h:au} {z:Nat} {x:X} {r:Rows} (G:EK h z x=some r):er (aO ρ h) z (x.I ρ)=some (r.I ρ):=by
 unfold EK at G
 split at G
 ·split at G
  ·rename_i hz;cases G;have hz:=Nat.eq_of_beq_eq_true hz;subst hz;simp only[X.I,er,if_true,Rows.I]
  ·cases G
 ·split at G
  ·rename_i hz;cases G;have hz:=Nat.eq_of_beq_eq_true hz;subst hz;simp only[X.I,er,if_true,Rows.I]
  ·cases G
 ·split at G
  ·rename_i cs Z
   split at G
   ·rename_i hz
    cases G
    simp only[Bool.and_eq_true,Nat.ble_eq]at hz
    have BK:=Nat.eq_of_beq_eq_true hz.1
    subst BK
    simp only[X.I,er,xV Z,Option.bind_some,X.f_,Rows.I,w7,X.xa]
    rw[if_pos ⟨trivial,hz.2⟩]
   ·cases G
  ·cases G
 ·cases G;simp only[X.I,er,Rows.I,X.aX]
 ·cases G
def z3 (z:Nat):X->Option Rows
 | .ro z' D true=>if Nat.beq z' z=true then some (.c D)else none
 | .rl z' n l true=>if Nat.beq z' z=true then some (.r n l)else none
 | .k (.slice none 0 0)=>some (.c [])
 | _=>none
theorem ac5 {ρ:aa} {z:Nat} {x:X} {r:Rows} (G:z3 z x=some r):jn z (x.I ρ)=some (r.I ρ):=by
 unfold z3 at G
 split at G
 ·split at G
  ·rename_i hz;cases G;have hz:=Nat.eq_of_beq_eq_true hz;subst hz;simp only[X.I,jn,if_true,Rows.I]
  ·cases G
 ·split at G
  ·rename_i hz;cases G;have hz:=Nat.eq_of_beq_eq_true hz;subst hz;simp only[X.I,jn,if_true,Rows.I]
  ·cases G
 ·cases G;simp only[X.I,jn,Rows.I,X.aX]
 ·cases G
def oS:List X->Option (List Sc)
 | []=>some []
 | .sc s::r=>(oS r).map (s :: ·)
 | _=>none
theorem zq {ρ:aa}:∀{l:List X} {s:List Sc},oS l=some s->ca ρ s=X.af ρ l
 | [],s,h=>by simp only[oS,Option.some.injEq]at h;subst h;rfl
 | x::r,s,h=>by
  unfold oS at h
  split at h
  ·contradiction
  ·rename_i s' r' G
   cases G
   obtain⟨t,ht,rfl⟩:=Option.map_eq_some_iff.1 h
   have:=zq (ρ:=ρ) ht
   simp only[X.af,X.I,<-this]
   rfl
  ·cases h
def oQ:List (List X)->Option RL
 | []=>none
 | [e]=>(oS e).map .one
 | e::D=>match oS e,oQ D with
  | some s,some l=>some (.app (.lit 1) (.one s) l)
  | _,_=>none
theorem ZI {ρ:aa}:∀{D:List (List X)} {l:RL},oQ D=some l->∀j:Nat,j<D.length->(X.aX ρ D)[j]? = some (l.row ρ j)
 | [],_,h,_,_=>by simp[oQ]at h
 | [e],l,h,j,O=>by
  simp only[oQ]at h
  obtain⟨s,hs,rfl⟩:=Option.map_eq_some_iff.1 h
  obtain rfl:j=0:=by simpa using O
  simp only[X.aX,List.getElem?_cons_zero,RL.row,zq hs]
 | e::e'::D,l,h,j,O=>by
  simp only[oQ]at h
  split at h
  ·rename_i s l' hs M
   cases h
   simp only[RL.row]
   cases j with
   | zero =>
    rw[if_pos (show((0:Nat):Int)<(U.lit 1).I ρ from by simp[U.I])]
    simp only[X.aX,List.getElem?_cons_zero,zq hs]
   | succ j =>
    rw[if_neg (show ¬((j+1:Nat):Int)<(U.lit 1).I ρ from by simp only[U.I];omega),show((j+1:Nat):Int)-(U.lit 1).I ρ=(j:Nat)from by simp only[U.I];omega]
    have:=ZI (ρ:=ρ) M j (by simpa using O)
    simpa only[X.aX,List.getElem?_cons_succ]using this
  ·cases h
theorem Iy {ρ:aa} {D:List (List X)} {l:RL} (h:oQ D=some l):aV ρ (.lit D.length) l=X.aX ρ D:=by
 apply List.ext_getElem?
 intro j
 by_cases O:j<D.length
 ·rw[ZI h j O,mD (by simp only[U.I];omega)]
 ·rw[List.getElem?_eq_none (by simp[aV,U.I];omega),List.getElem?_eq_none (by simp[X.eg];omega)]
theorem Px {ρ:aa} {n m:U} {a b:RL} (hn:0<=n.I ρ) (hm:0<=m.I ρ):aV ρ (mkAdd n m) (.app n a b)=aV ρ n a++aV ρ m b:=by
 apply List.ext_getElem?
 intro j
 obtain⟨x,hx⟩:∃x:Nat,n.I ρ=x:=⟨(n.I ρ).toNat,by omega⟩
 obtain⟨y,hy⟩:∃y:Nat,m.I ρ=y:=⟨(m.I ρ).toNat,by omega⟩
 have M:(aV ρ n a).length=x:=by simp[aV,hx]
 by_cases A:j<x
 ·rw[List.getElem?_append_left (by omega),mD (by rw[fe];omega),mD (by omega)]
  simp only[RL.row,hx]
  rw[if_pos (by omega)]
 ·rw[List.getElem?_append_right (by omega),M]
  by_cases E:j<x+y
  ·rw[mD (by rw[fe];omega),mD (by omega)]
   simp only[RL.row,hx]
   rw[if_neg (by omega),show(j:Int)-x=(j-x:Nat)from by omega]
  ·rw[List.getElem?_eq_none (by simp[aV,fe,hx,hy];omega),List.getElem?_eq_none (by simp[aV,hy];omega)]
def Rows.len:Rows->U
 | .c D => .lit D.length
 | .r n _=>n
def Em:Rows->Rows->Option Rows
 | .c D,.c fs=>some (.c (D++fs))
 | .r n l,.c []=>some (.r n l)
 | .c [],.r n l=>some (.r n l)
 | .r n l,.c fs=>(oQ fs).map fun m => .r (mkAdd n (.lit fs.length)) (.app n l m)
 | .c D,.r n l=>(oQ D).map fun m => .r (mkAdd (.lit D.length) n) (.app (.lit D.length) m l)
 | .r n l,.r m k=>some (.r (mkAdd n m) (.app n l k))
theorem Rows.BY {ρ:aa} {a:Rows} (h:0<=a.len.I ρ):((a.I ρ).length:Int)=a.len.I ρ:=by
 cases a with
 | c D=>simp[Rows.I,Rows.len,X.eg,U.I]
 | r n l=>simp only[Rows.len]at h;simp only[Rows.I,Rows.len,aV,List.length_map,List.length_range];omega
theorem Sg {ρ:aa} {a b c:Rows} (ha:0<=a.len.I ρ) (hb:0<=b.len.I ρ) (h:Em a b=some c):c.I ρ=a.I ρ++b.I ρ:=by
 unfold Em at h
 split at h
 ·cases h;simp[Rows.I,X.eg]
 ·cases h;simp[Rows.I,X.aX]
 ·cases h;simp[Rows.I,X.aX]
 ·obtain⟨m,hm,rfl⟩:=Option.map_eq_some_iff.1 h
  simp only[Rows.I,<-Iy hm]
  exact Px ha hb
 ·obtain⟨m,hm,rfl⟩:=Option.map_eq_some_iff.1 h
  simp only[Rows.I,<-Iy hm]
  exact Px ha hb
 ·cases h
  exact Px ha hb
def z_ (b:Nat):Nat:=Nat.min (140737488355328 / b) 9223372036854775807
theorem El {b n:Nat} (h:n<=z_ b):n*b<=140737488355328/\n<=9223372036854775807:=by
 have A:n<=140737488355328 / b:=Nat.le_trans h (Nat.min_le_left _ _)
 have E:n<=9223372036854775807:=Nat.le_trans h (Nat.min_le_right _ _)
 exact⟨Nat.mul_le_of_le_div b n _ A,E⟩
def Rows.ro (z:Nat):Rows->X
 | .c D => .ro z D false
 | .r n l => .rl z n l false
theorem Rows.X9 (ρ:aa) (z:Nat) (a:Rows):(a.ro z).I ρ = .ro z (a.I ρ) false:=by cases a<;>rfl
def vQ {ao:Type} (B:J) (a b:Rows) (kU:Nat) (k:J->T ao):T ao :=
 want B (mkNot (mkLt a.len (.lit 0))) fun B=>want B (mkNot (mkLt b.len (.lit 0))) fun B=>want B (mkNot (mkLt (.lit (z_ kU)) (mkAdd a.len b.len))) k
theorem zi {ao:Type} {ρ:aa} {B:J} {a b:Rows} {kU:Nat} {k:J->T ao} {x:ao} (u:J.ok ρ B) (h:(vQ B a b kU k).aq ρ=some x) :
  ∃aS,J.ok ρ aS/\0<=a.len.I ρ/\0<=b.len.I ρ/\((a.I ρ).length+(b.I ρ).length)*kU<=140737488355328/\(a.I ρ).length+(b.I ρ).length<=9223372036854775807/\(k aS).aq ρ=some x:=by
 obtain⟨fd,bp,c1,h⟩:=cX u h
 obtain⟨lw,dO,c2,h⟩:=cX bp h
 obtain⟨zI,qC,c3,h⟩:=cX dO h
 have c1:=eG c1
 have c2:=eG c2
 have c3:=eG c3
 rw[fe]at c3
 simp only[U.I]at c1 c2 c3
 have l1:=Rows.BY (ρ:=ρ) (a:=a) (by omega)
 have l2:=Rows.BY (ρ:=ρ) (a:=b) (by omega)
 have:=El (b:=kU) (n:=(a.I ρ).length+(b.I ρ).length) (by omega)
 exact⟨zI,qC,by omega,by omega,this.1,this.2,h⟩
def Jy (n z b:Nat) (m:Nm) (w off len:Nat) (own:Bool) (cs:List X) (fs:List (List X)):Option (X×aL) :=
 if(!b6 (cs.drop off++e_ fs)&&(Nat.beq w z&&(own&&(Nat.beq cs.length (off+len*z)&&((e_ fs).all X.one&&Nat.ble (len+fs.length) (z_ b))))))=true then
  some (.sl (n,0) z 0 (len+fs.length) true,[(m,none),((n,0),some (cs.drop off++e_ fs))])else none
theorem acG {P:Program} {ρ:aa} {n z:Nat} {m:Nm} {w off len:Nat} {own mu:Bool} {e:TypeId} {h:au} {cs:List X} {fs:List (List X)} {r:X×aL} (Z:ph h m=some cs) (R:Jy n z (de P e) m w off len own cs fs=some r) :
  jm P n (aO ρ h) mu e z (.sl m w off len own) (some (X.aX ρ fs))=some (r.1.I ρ,bk ρ r.2):=by
 unfold Jy at R
 split at R
 ·rename_i j7
  simp only[Bool.and_eq_true,Nat.ble_eq]at j7
  obtain⟨k9,g1,g3,g4,g5,g6⟩:=j7
  have k9:b6 (cs.drop off++e_ fs)=false:=by simpa using k9
  have g1:=Nat.eq_of_beq_eq_true g1
  have g4:=Nat.eq_of_beq_eq_true g4
  subst g1
  cases R
  have kc:(X.aX ρ fs).length=fs.length:=by simp[X.eg]
  have f2:=El g6
  simp only[jm,xV Z,um,X.f_,kc]
  rw[if_pos ⟨trivial,g3⟩,if_pos ⟨g4,by rw[<-qu];exact X.nO ρ _ g5,f2.1,f2.2⟩]
  simp only[X.I,bk,List.map_cons,List.map_nil,Option.map_some,Option.map_none,cP k9,X.gq,qu,X.xa]
 ·cases R
def y' (n z:Nat) (d:aL) (D fs:Rows):Option (X×aL) :=
 match Em D fs with
 | some (.r N L)=>if(L.wd z&&(N.beq (mkAdd D.len fs.len)))=true then some (.slv (n,0) z (.lit 0) N true,d++[((n,0),some [.rows z N L])])else none
 | _=>none
theorem HS {ρ:aa} {n z:Nat} {d:aL} {D fs:Rows} {r:X×aL} (la:0<=D.len.I ρ) (lm:0<=fs.len.I ρ) (R:y' n z d D fs=some r) :
  (r.1.I ρ,bk ρ r.2)=(.sl (n,0) z 0 ((D.I ρ).length+(fs.I ρ).length) true,bk ρ d++[((n,0),some ((D.I ρ).flatten++(fs.I ρ).flatten))]):=by
 unfold y' at R
 split at R
 ·rename_i N L L2
  split at R
  ·rename_i H
   simp only[Bool.and_eq_true]at H
   cases R
   have A:aV ρ N L=D.I ρ++fs.I ρ:=Sg la lm L2
   have E:=Rows.BY la
   have h3:=Rows.BY lm
   have h4:=U.beq_eq _ _ H.2
   have h5:(N.I ρ).toNat=(D.I ρ).length+(fs.I ρ).length:=by rw[h4,fe];omega
   simp only[X.I,U.I,h5,bk,List.map_append,List.map_cons,List.map_nil,Option.map_some,aA,A,List.flatten_append]
   simp
  ·cases R
 ·cases R
def R1 (n z b:Nat) (D fs:List (List X)):Option (X×aL) :=
 if(!b6 (e_ D++e_ fs)&&(Nat.ble (D.length+fs.length) (z_ b)&&Nat.blt 0 fs.length))=true then some (.sl (n,0) z 0 (D.length+fs.length) true,[((n,0),some (e_ D++e_ fs))])else none
def Jv (n:Nat) (mu:Bool) (z b:Nat) (B:J) (D fs:Rows):T (X×aL) :=
 match mu with
 | false=>vQ B D fs b fun _=>eH ((Em D fs).map fun r=>(r.ro z,[]))
 | true=>match D,fs with
  | .c D,.c fs=>eH (R1 n z b D fs)
  | D,fs=>vQ B D fs b fun B=>want B (mkLt (.lit 0) fs.len) fun _=>eH (y' n z [] D fs)
theorem acC {ρ:aa} {n z b:Nat} {mu:Bool} {B:J} (u:J.ok ρ B) {D fs:Rows} {r:X×aL} (R:(Jv n mu z b B D fs).aq ρ=some r):nP n mu z b (fs.I ρ) (some (D.I ρ))=some (r.1.I ρ,bk ρ r.2):=by
 unfold Jv at R
 split at R
 ·obtain⟨aS,_,la,lm,c1,c2,R⟩:=zi u R
  obtain⟨c,L2,rfl⟩:=Option.map_eq_some_iff.1 (e6 R)
  simp only[nP]
  rw[if_pos ⟨c1,c2,fun W=>(nomatch W)⟩,Rows.X9,Sg la lm L2]
  rfl
 ·split at R
  ·rename_i D fs
   have R:=e6 R
   unfold R1 at R
   split at R
   ·rename_i j7
    simp only[Bool.and_eq_true,Nat.ble_eq]at j7
    have k9:b6 (e_ D++e_ fs)=false:=by simpa using j7.1
    have j7:=j7.2
    cases R
    have sF:(X.aX ρ D).length=D.length:=by simp[X.eg]
    have kc:(X.aX ρ fs).length=fs.length:=by simp[X.eg]
    have f2:=El j7.1
    have kf:0<fs.length:=by simpa [Nat.blt_eq]using j7.2
    simp only[nP,Rows.I,sF,kc]
    rw[if_pos ⟨f2.1,f2.2,fun _ W=>by rw[<-kc,W]at kf;simp at kf⟩]
    simp only[X.I,bk,List.map_cons,List.map_nil,Option.map_some,cP k9,X.gq,qu]
   ·cases R
  ·obtain⟨aS,aM,la,lm,c1,c2,R⟩:=zi u R
   obtain⟨lw,_,c3,R⟩:=cX aM R
   rw[gY]at c3
   have c3:=of_decide_eq_true c3
   simp only[U.I]at c3
   have M:=Rows.BY (ρ:=ρ) lm
   simp only[nP]
   rw[if_pos ⟨c1,c2,fun _ W=>by rw[W]at M;simp at M;omega⟩]
   have:=e6 R
   rw[HS la lm this]
   rfl
def HT:Rows->Bool
 | .c D=>(e_ D).all X.one
 | .r _ _=>true
theorem Y3 (ρ:aa) (r:List Sc):(ca ρ r).all AV.one=true:=by
 unfold ca
 rw[List.all_eq_true]
 intro x hx
 obtain⟨s,_,rfl⟩:=List.mem_map.1 hx
 cases s<;>rfl
theorem Es (ρ:aa) (l j:Nat):∀(ks:List Kd) (k:Nat),(bH ρ l k ks j).all AV.one=true
 | [],_=>rfl
 | .i _::ks,k=>by simp only[bH,List.all_cons,Es ρ l j ks (k+1),Bool.and_true];rfl
 | .b::ks,k=>by simp only[bH,List.all_cons,Es ρ l j ks (k+1),Bool.and_true];rfl
 | .s::ks,k=>by simp only[bH,List.all_cons,Es ρ l j ks (k+1),Bool.and_true];rfl
theorem row_one (ρ:aa):∀(l:RL) (j:Int),(l.row ρ j).all AV.one=true
 | .var l ks,j=>Es ρ l _ ks 0
 | .one r,j=>Y3 ρ r
 | .app n a b,j=>by
  simp only[RL.row]
  split
  ·exact row_one ρ a _
  ·exact row_one ρ b _
 | .drop n a,j=>row_one ρ a _
 | .eK i r a,j=>by
  simp only[RL.row]
  split
  ·exact Y3 ρ r
  ·exact row_one ρ a _
 | .ite c a b,j=>by
  simp only[RL.row]
  split
  ·exact row_one ρ a _
  ·exact row_one ρ b _
theorem Py {ρ:aa} {fs:Rows} (h:HT fs=true):(fs.I ρ).flatten.all AV.one=true:=by
 cases fs with
 | c D=>simp only[Rows.I,<-qu];exact X.nO ρ _ h
 | r n l =>
  simp only[Rows.I,aV]
  rw[List.all_eq_true]
  intro x hx
  obtain⟨r,hr,hx⟩:=List.mem_flatten.1 hx
  obtain⟨j,_,rfl⟩:=List.mem_map.1 hr
  exact List.all_eq_true.1 (row_one ρ l j) x hx
def y_ (h:au) (m:Nm):Option (Nat×U×RL):=match bh h m with
 | some [.rows z n l]=>if l.wd z=true then some (z,n,l)else none
 | _=>none
theorem HR {ρ:aa} {h:au} {m:Nm} {z:Nat} {n:U} {l:RL} (hr:y_ h m=some (z,n,l)):ae (aO ρ h) m=some (aV ρ n l).flatten/\l.wd z=true:=by
 unfold y_ at hr
 split at hr
 ·rename_i z' n' l' Z
  split at hr
  ·rename_i hw
   cases hr
   exact⟨by rw[cG,Z];rfl,hw⟩
  ·cases hr
 ·cases hr
theorem CH {ρ:aa} {n:U} {l:RL} {z:Nat} (hw:l.wd z=true) (j:Nat) (e:List AV) (h:(aV ρ n l)[j]? = some e):e.length=z:=by
 unfold aV at h
 rw[List.getElem?_map]at h
 obtain⟨k,_,rfl⟩:=Option.map_eq_some_iff.1 h
 exact RL.tS hw
theorem pQ (ρ:aa) (n:U) (l:RL):(aV ρ n l).length=(n.I ρ).toNat:=by simp[aV]
theorem wc {ρ:aa} {n:U} {l:RL} {z:Nat} (hw:l.wd z=true):(aV ρ n l).flatten.length=(n.I ρ).toNat*z:=by
 rw[gS _ (fun j e h=>CH hw j e h),pQ]
theorem E6 {ρ:aa} {n:U} {l:RL} {z j:Nat} (hw:l.wd z=true) (O:(j:Int)<n.I ρ) {k:Nat} (u:k<z):(aV ρ n l).flatten[j*z+k]? = (l.row ρ j)[k]? :=
 AU _ (fun j e h=>CH hw j e h) j _ (mD O) k u
theorem row_in {j m z:Nat} (h:j<m):j*z+z<=m*z:=by rw[<-Nat.succ_mul];exact Nat.mul_le_mul_right z h
theorem ae4 {ρ:aa} {n:U} {l:RL} {z j:Nat} (hw:l.wd z=true) (O:(j:Int)<n.I ρ) {o s:Nat} (ho:o+s<=z):((aV ρ n l).flatten.drop (j*z+o)).take s=((l.row ρ j).drop o).take s:=by
 apply List.ext_getElem?
 intro i
 rw[List.getElem?_take,List.getElem?_take]
 split
 ·rename_i hi
  rw[List.getElem?_drop,List.getElem?_drop,Nat.add_assoc,E6 hw O (by omega)]
 ·rfl
theorem apM {ρ:aa} {n:U} {l:RL} {z j:Nat} (hw:l.wd z=true) (O:(j:Int)<n.I ρ) {o s:Nat} (ho:o+s<=z) (hz:o<z) (b:Option Bool) {v:AV} (h:jK b s (l.row ρ j) o=some v):jK b s (aV ρ n l).flatten (j*z+o)=some v:=by
 match b,h with
 | some true,h =>
  simp only[jK]at h ⊢
  split at h
  ·rename_i H
   have:=row_in (z:=z) (show j<(n.I ρ).toNat by omega)
   rw[if_pos ⟨H.1,by rw[wc hw];omega⟩,ae4 hw O ho]
   exact h
  ·cases h
 | some false,h =>
  simp only[jK]at h ⊢
  rw[E6 hw O hz];exact h
theorem PA {ρ:aa} {z:Nat} {m:U} {t:Nat} (j:Nat) (e:List AV) (h:(bC ρ z m t)[j]? = some e):e.length=z:=by
 unfold bC at h
 rw[List.getElem?_map]at h
 obtain⟨k,_,rfl⟩:=Option.map_eq_some_iff.1 h
 rw[List.length_map,List.length_range]
theorem QB {ρ:aa} {z:Nat} {m:U} {t:Nat} {D:List (List X)} (h:D.all (fun e=>Nat.beq e.length z)=true) (j:Nat) (e:List AV) (O:(bC ρ z m t++X.aX ρ D)[j]? = some e):e.length=z:=by
 by_cases c:j<(bC ρ z m t).length
 ·rw[List.getElem?_append_left c]at O
  exact PA j e O
 ·rw[List.getElem?_append_right (by omega),X.eg,List.getElem?_map]at O
  obtain⟨r,hr,rfl⟩:=Option.map_eq_some_iff.1 O
  rw[X.f_]
  exact Nat.eq_of_beq_eq_true (List.all_eq_true.1 h r (List.mem_of_getElem? hr))
theorem Yn {ρ:aa} {z:Nat} {m:U} {t:Nat}:(bC ρ z m t).flatten.length=(m.I ρ).toNat*z:=by
 rw[gS _ (fun j e h=>PA j e h)]
 unfold bC;rw[List.length_map,List.length_range]
theorem Lv {ρ:aa} {z:Nat} {m:U} {t j:Nat} (O:(j:Int)<m.I ρ) {k:Nat} (u:k<z):(bC ρ z m t).flatten[j*z+k]? = some (ρ.ct t k j).1:=by
 rw[AU _ (fun j e h=>PA j e h) j _ (Pz O) k u,List.getElem?_map,List.getElem?_range u];rfl
def loadT (i:TI) (h:au) (B:J) (m:Nm) (z:Nat) (j:U) (o:Nat):T X :=
 match bh h m with
 | some [.tk z' n t []]=>if(Nat.beq z' z&&(Nat.ble (o+i.cells) z&&Nat.blt o z))=true then
   gV B j n fun _=>eH (tp i.agg i.cells (qg z t j) o)
  else (.fail ["loadT"])
 | _ => (.fail ["rowsAt"])
theorem ahR {P:Program} {ρ:aa} {ty:TypeId} {h:au} {B:J} {m:Nm} {z:Nat} {j:U} {o:Nat} {v:X} (u:J.ok ρ B) (R:(loadT (cr P ty) h B m z j o).aq ρ=some v):oq P (aO ρ h) ty ((X.dv m z j o).I ρ)=some (v.I ρ):=by
 unfold loadT at R
 split at R
 ·rename_i z' n t Z
  split at R
  ·rename_i H
   simp only[Bool.and_eq_true,Nat.ble_eq,Nat.blt_eq]at H
   have hz:=Nat.eq_of_beq_eq_true H.1
   subst hz
   obtain⟨aS,q,aM,G,O,R⟩:=lG u R
   have A:=y0 (ρ:=ρ) (e6 R)
   rw[JU,G,Int.toNat_natCast]at A
   have ae:ae (aO ρ h) m=some (bC ρ z' n t).flatten:=by rw[cG,Z];simp only[Option.map_some,aA,X.aX,List.append_nil]
   have ii:(cr P ty).cells=P.cellsOf ty:=rfl
   have LV:(cr P ty).agg=eT P ty:=rfl
   obtain⟨_,eW,j6⟩:=H
   rw[ii,LV]at A
   rw[ii]at eW
   simp only[X.I,oq,ae,HB,G,Int.toNat_natCast]
   have co:=row_in (z:=z') (show q<(n.I ρ).toNat by omega)
   have hF:=Yn (ρ:=ρ) (z:=z') (m:=n) (t:=t)
   match hb:eT P ty,A with
   | some true,A =>
    simp only[jK]at A ⊢
    split at A
    ·rename_i dA
     rw[if_pos ⟨dA.1,by rw[hF];omega⟩,<-A]
     congr 2
     apply List.ext_getElem?
     intro i
     rw[List.getElem?_take,List.getElem?_take]
     split
     ·rename_i hi
      rw[List.getElem?_drop,List.getElem?_drop,Nat.add_assoc,Lv O (by omega),List.getElem?_map,List.getElem?_range (by omega)];rfl
     ·rfl
    ·cases A
   | some false,A =>
    simp only[jK]at A ⊢
    rw[List.getElem?_map,List.getElem?_range j6]at A
    rw[Lv O j6];exact A
  ·cases R
 ·cases R
def ND (i:TI) (h:au) (B:J) (m:Nm) (z:Nat) (j:U) (o:Nat):T X :=
 match y_ h m with
 | some (z',n,l)=>if(Nat.beq z' z&&(Nat.ble (o+i.cells) z&&Nat.blt o z))=true then
   gV B j n fun B=>match l.gv B j with
    | some r=>eH (tp i.agg i.cells (Co r) o)
    | none => (.fail ["row"])
  else (.fail ["loadV"])
 | none=>loadT i h B m z j o
theorem ahS {P:Program} {ρ:aa} {ty:TypeId} {h:au} {B:J} {m:Nm} {z:Nat} {j:U} {o:Nat} {v:X} (u:J.ok ρ B) (R:(ND (cr P ty) h B m z j o).aq ρ=some v):oq P (aO ρ h) ty ((X.dv m z j o).I ρ)=some (v.I ρ):=by
 unfold ND at R
 split at R
 ·rename_i z' n l hr
  split at R
  ·rename_i H
   simp only[Bool.and_eq_true,Nat.ble_eq,Nat.blt_eq]at H
   have hz:=Nat.eq_of_beq_eq_true H.1
   subst hz
   obtain⟨aS,t,aM,G,O,R⟩:=lG u R
   obtain⟨Z,hw⟩:=HR (ρ:=ρ) hr
   split at R
   ·rename_i r ae
    have A:=y0 (ρ:=ρ) (e6 R)
    rw[OJ,RL.k_ aM ae,G]at A
    have ii:(cr P ty).cells=P.cellsOf ty:=rfl
    have LV:(cr P ty).agg=eT P ty:=rfl
    rw[ii,LV]at A
    simp only[X.I,oq,Z,HB,G,Int.toNat_natCast]
    exact apM hw O (by have:=H.2.1;rw[ii]at this;exact this) H.2.2 _ A
   ·cases R
  ·cases R
 ·exact ahR u R
def GB (j:U) (r:List Sc):RL->RL
 | .eK i q a=>if i.beq j=true then .eK j r a else .eK j r (.eK i q a)
 | a => .eK j r a
theorem aim (ρ:aa) (j:U) (r:List Sc) (a:RL) (k:Int):(GB j r a).row ρ k=if k=j.I ρ then ca ρ r else a.row ρ k:=by
 unfold GB
 split
 ·split
  ·rename_i i q b hb
   have:=U.beq_eq _ _ hb
   subst this
   simp only[RL.row]
   split<;>rfl
  ·rfl
 ·rfl
theorem Qa {cs ys:List AV} {o:Nat} (ho:o<=cs.length) (i:Nat):(fT cs o ys)[i]? = if i<o then cs[i]? else if i<o+ys.length then ys[i-o]? else cs[i]? := by
 unfold fT
 have M:(cs.take o).length=o:=by rw[List.length_take];omega
 by_cases A:i<o
 ·rw[List.getElem?_append_left (by omega),List.getElem?_take,if_pos A,if_pos A]
 ·rw[List.getElem?_append_right (by omega),M,if_neg A]
  by_cases E:i<o+ys.length
  ·rw[List.getElem?_append_left (by omega),if_pos E]
  ·rw[List.getElem?_append_right (by omega),if_neg E,List.getElem?_drop,show o+ys.length+(i-o-ys.length)=i from by omega]
theorem arJ {ρ:aa} {n:U} {l:RL} {z j:Nat} (hw:l.wd z=true) (O:(j:Int)<n.I ρ) {o:Nat} {ys:List AV} (ho:o+ys.length<=z) {m:RL} (FE:m.wd z=true)
  (hm:∀k:Int,m.row ρ k=if k=j then fT (l.row ρ j) o ys else l.row ρ k):fT (aV ρ n l).flatten (j*z+o) ys=(aV ρ n m).flatten:=by
 have co:=row_in (z:=z) (show j<(n.I ρ).toNat by omega)
 have j3:=wc (ρ:=ρ) (n:=n) hw
 have j5:=wc (ρ:=ρ) (n:=n) FE
 apply List.ext_getElem?
 intro i
 rw[Qa (by omega)]
 by_cases hi:i<(n.I ρ).toNat*z
 ·have hz:0<z:=by
   rcases Nat.eq_zero_or_pos z with h0 | h0
   ·subst h0;simp at hi
   ·exact h0
  obtain⟨q,k,u,rfl⟩:∃q k,k<z/\i=q*z+k:=⟨i / z,i % z,Nat.mod_lt _ hz,by rw[Nat.mul_comm];exact(Nat.div_add_mod i z).symm⟩
  have hq:(q:Int)<n.I ρ:=by
   have:q<(n.I ρ).toNat:=by
    rcases Nat.lt_or_ge q (n.I ρ).toNat with h | h
    ·exact h
    ·have:=Nat.mul_le_mul_right z h;omega
   omega
  rw[E6 FE hq u,hm,E6 hw hq u]
  by_cases hqj:q=j
  ·subst hqj
   rw[if_pos rfl,Qa (by rw[RL.tS hw];omega)]
   by_cases A:k<o
   ·rw[if_pos (by omega),if_pos A]
   ·rw[if_neg (by omega),if_neg A]
    by_cases E:k<o+ys.length
    ·rw[if_pos (by omega),if_pos E,show q*z+k-(q*z+o)=k-o from by omega]
    ·rw[if_neg (by omega),if_neg E]
  ·rw[if_neg (show ¬((q:Nat):Int)=j by omega)]
   rcases Nat.lt_or_ge q j with h | h
   ·have:=row_in (z:=z) h
    rw[if_pos (by omega)]
   ·have:=row_in (z:=z) (show j<q by omega)
    rw[if_neg (by omega),if_neg (by omega)]
 ·rw[if_neg (by omega),if_neg (by omega),List.getElem?_eq_none (by omega),List.getElem?_eq_none (by omega)]
def storeT (i:TI) (h:au) (B:J) (m:Nm) (z:Nat) (j:U) (o:Nat) (ys:List X):T aL :=
 match bh h m with
 | some [.tk z' n t []]=>match ys with
  | [.cJ t' o' j']=>if(Nat.beq z' z&&(Nat.blt o z&&(Nat.beq i.cells 1&&(Nat.beq t' t&&(Nat.beq o' o&&j'.beq j)))))=true then
    gV B j n fun _ => .ret [(m,some [.tk z n t []])]
   else (.fail ["storeT"])
  | _ => (.fail ["storeT"])
 | _ => (.fail ["rowsAt"])
theorem arT {P:Program} {ρ:aa} {ty:TypeId} {h:au} {B:J} {m:Nm} {z:Nat} {j:U} {o:Nat} {ys:List X} {d:aL} (u:J.ok ρ B) (R:(storeT (cr P ty) h B m z j o ys).aq ρ=some d) :
  ys.all X.one=true/\pU P (aO ρ h) ty ((X.dv m z j o).I ρ) (X.af ρ ys)=some (bk ρ d):=by
 unfold storeT at R
 split at R
 ·rename_i z' n t Z
  split at R
  ·rename_i t' o' j'
   split at R
   ·rename_i H
    simp only[Bool.and_eq_true,Nat.blt_eq]at H
    obtain⟨g1,g2,g3,g4,g5,g6⟩:=H
    have g1:=Nat.eq_of_beq_eq_true g1
    have g3:=Nat.eq_of_beq_eq_true g3
    have g4:=Nat.eq_of_beq_eq_true g4
    have g5:=Nat.eq_of_beq_eq_true g5
    have g6:=U.beq_eq _ _ g6
    subst g1 g4 g5 g6
    obtain⟨aS,q,aM,G,O,R⟩:=lG u R
    cases R
    have gA:[X.cJ t' o' j'].all X.one=true:=rfl
    refine⟨gA,?_⟩
    have ae:ae (aO ρ h) m=some (bC ρ z' n t').flatten:=by rw[cG,Z];simp only[Option.map_some,aA,X.aX,List.append_nil]
    have ii:P.cellsOf ty=1:=g3
    have co:=row_in (z:=z') (show q<(n.I ρ).toNat by omega)
    have hF:=Yn (ρ:=ρ) (z:=z') (m:=n) (t:=t')
    simp only[X.I,pU,ae,wG,G,Int.toNat_natCast,ii]
    rw[if_pos ⟨by omega,rfl,by rw[hF];omega,X.nO ρ _ gA⟩]
    simp only[bk,List.map_cons,List.map_nil,Option.map_some,aA,X.aX,List.append_nil]
    congr 4
    apply List.ext_getElem?
    intro i
    have M:(X.af ρ [X.cJ t' o' j']).length=1:=rfl
    rw[Qa (by rw[hF];omega),M]
    split
    ·rfl
    ·split
     ·have:i=q*z'+o':=by omega
      subst this
      rw[Nat.sub_self,Lv O g2]
      simp only[X.af,X.I,G,Int.toNat_natCast];rfl
     ·rfl
   ·cases R
  ·cases R
 ·cases R
def Qh (i:TI) (h:au) (B:J) (m:Nm) (z:Nat) (j:U) (o:Nat) (ys:List X):T aL :=
 match y_ h m with
 | some (z',n,l)=>if(Nat.beq z' z&&(Nat.ble (o+i.cells) z&&(Nat.beq ys.length i.cells&&(Nat.blt 0 i.cells&&ys.all X.one))))=true then
   gV B j n fun B=>match l.gv B j with
    | some r=>match oS (tI (Co r) o ys)with
     | some r' => if (GB j r' l).wd z = true then .ret [(m, some [.rows z n (GB j r' l)])] else (.fail ["wd"])
     | none => (.fail ["scs"])
    | none => (.fail ["row"])
  else (.fail ["storeV"])
 | none=>storeT i h B m z j o ys
theorem arU {P:Program} {ρ:aa} {ty:TypeId} {h:au} {B:J} {m:Nm} {z:Nat} {j:U} {o:Nat} {ys:List X} {d:aL} (u:J.ok ρ B) (R:(Qh (cr P ty) h B m z j o ys).aq ρ=some d) :
  ys.all X.one=true/\pU P (aO ρ h) ty ((X.dv m z j o).I ρ) (X.af ρ ys)=some (bk ρ d):=by
 unfold Qh at R
 split at R
 ·rename_i z' n l hr
  split at R
  ·rename_i H
   simp only[Bool.and_eq_true,Nat.ble_eq,Nat.blt_eq]at H
   obtain⟨hz,A,E,h3,h4⟩:=H
   have hz:=Nat.eq_of_beq_eq_true hz
   subst hz
   have E:=Nat.eq_of_beq_eq_true E
   have ii:(cr P ty).cells=P.cellsOf ty:=rfl
   rw[ii]at A E h3
   obtain⟨aS,t,aM,G,O,R⟩:=lG u R
   obtain⟨Z,hw⟩:=HR (ρ:=ρ) hr
   split at R
   ·rename_i r ae
    split at R
    ·rename_i r' hs
     split at R
     ·rename_i FE
      cases R
      refine⟨h4,?_⟩
      simp only[X.I,pU,Z,wG,X.f_,G,Int.toNat_natCast]
      have co:=row_in (z:=z') (show t<(n.I ρ).toNat by omega)
      rw[if_pos ⟨h3,E,by rw[wc hw];omega,X.nO ρ _ h4⟩]
      have x3:ca ρ r'=fT (l.row ρ t) o (X.af ρ ys):=by
       rw[zq hs,Ii,OJ,RL.k_ aM ae,G]
      rw[arJ hw O (by rw[X.f_];omega) FE (fun k=>by rw[aim,G,x3])]
      rfl
     ·cases R
    ·cases R
   ·cases R
  ·cases R
 ·exact arT u R
def MW (i:TI) (h:au) (B:J) (m:Nm) (z:Nat) (off len e:U):T X :=
 match i.sl with
 | some (_, z') => if (Nat.beq z' z && iu h m) = true then want B (mkNot (mkLt off (.lit 0))) fun B => gV B e len fun _ => .ret (.dv m z (mkAdd off e) 0) else (.fail ["idxV"])
 | none => (.fail ["idxV"])
theorem agI {P:Program} {ρ:aa} {ty:TypeId} {h:au} {B:J} {m:Nm} {z:Nat} {off len e:U} {own:Bool} {k:IntKind} {v:X} (u:J.ok ρ B) (R:(MW (cr P ty) h B m z off len e).aq ρ=some v) :
  jz P (aO ρ h) ty ((X.slv m z off len own).I ρ) (.sc (.int k (e.I ρ)))=some (v.I ρ):=by
 unfold MW at R
 split at R
 ·rename_i ee z' hs
  have cu:bE P ty=some (ee,z'):=hs
  split at R
  ·rename_i H
   simp only[Bool.and_eq_true]at H
   have hz:=Nat.eq_of_beq_eq_true H.1
   subst hz
   obtain⟨fd,bp,c1,R⟩:=cX u R
   obtain⟨aS,t,_,G,O,R⟩:=lG bp R
   cases R
   have c1:=eG c1
   simp only[U.I]at c1
   simp only[X.I,jz,FO,cu,jE H.2,G,Int.toNat_natCast,fe]
   rw[if_pos ⟨trivial,trivial,by omega,by omega⟩]
   simp only[Nat.add_zero]
   congr 2
   rw[show(off.I ρ+(t:Int)).toNat=(off.I ρ).toNat+t from by omega,Nat.add_mul]
  ·cases R
 ·cases R
def P_ (i:TI) (h:au) (B:J) (m:Nm) (z:Nat) (off len:U) (own:Bool) (lo hi:U):T X :=
 match i.sl with
 | some (_,z')=>if(Nat.beq z' z&&iu h m)=true then
   want B (mkNot (mkLt off (.lit 0))) fun B=>want B (mkNot (mkLt lo (.lit 0))) fun B=>want B (mkNot (mkLt (mkSub hi lo) (.lit 0))) fun B=>want B (mkNot (mkLt len hi)) fun _ =>
    .ret (.slv m z (mkAdd off lo) (mkSub hi lo) own)
  else (.fail ["sliceV"])
 | none => (.fail ["sliceV"])
theorem arF {P:Program} {ρ:aa} {ty:TypeId} {h:au} {B:J} {m:Nm} {z:Nat} {off len:U} {own:Bool} {lo hi:Option X} {l r:U} {v:X} (u:J.ok ρ B) (M:nU lo (.lit 0)=some l) (hr:nU hi len=some r)
  (R:(P_ (cr P ty) h B m z off len own l r).aq ρ=some v):pS P (aO ρ h) ty ((X.slv m z off len own).I ρ) (lo.map (X.I ρ)) (hi.map (X.I ρ)) none=some (v.I ρ):=by
 unfold P_ at R
 split at R
 ·rename_i ee z' hs
  have cu:bE P ty=some (ee,z'):=hs
  split at R
  ·rename_i H
   simp only[Bool.and_eq_true]at H
   have hz:=Nat.eq_of_beq_eq_true H.1
   subst hz
   obtain⟨fd,bp,c1,R⟩:=cX u R
   obtain⟨lw,dO,c2,R⟩:=cX bp R
   obtain⟨zI,qC,c3,R⟩:=cX dO R
   obtain⟨auF,hk4,dy,R⟩:=cX qC R
   cases R
   have c1:=eG c1
   have c2:=eG c2
   have c3:=eG c3
   have dy:=eG dy
   rw[ng]at c3
   simp only[U.I]at c1 c2 c3
   obtain⟨a,iK⟩:∃a:Nat,l.I ρ=a:=⟨(l.I ρ).toNat,by omega⟩
   obtain⟨b,iN⟩:∃b:Nat,r.I ρ=b:=⟨(r.I ρ).toNat,by omega⟩
   have e1:=kS (ρ:=ρ) M (d9:=0) (by simp[U.I]) iK
   have e2:=kS (ρ:=ρ) hr (d9:=(len.I ρ).toNat) (by omega) iN
   simp only[pS,e1,X.I,kM,e2,rD,cu,jE H.2]
   rw[if_pos ⟨trivial,trivial,by omega,by omega⟩]
   simp only[fe,ng,iK,iN,Option.some.injEq,AV.sl.injEq,true_and,and_true]
   exact⟨by rw[show(off.I ρ+(a:Int)).toNat=(off.I ρ).toNat+a from by omega,Nat.add_mul],by omega⟩
  ·cases R
 ·cases R
def Nt (i:TI) (h:au) (B:J) (m:Nm) (len:U):T X :=
 if (i.sl.isSome && iu h m) = true then want B (mkNot (mkLt len (.lit 0))) fun _ => .ret (.sc (.i .i64 len)) else (.fail ["lenV"])
theorem ahJ {P:Program} {ρ:aa} {ty:TypeId} {h:au} {B:J} {m:Nm} {z:Nat} {off len:U} {own:Bool} {v:X} (u:J.ok ρ B) (R:(Nt (cr P ty) h B m len).aq ρ=some v):mo (i_ P (aO ρ h) ty ((X.slv m z off len own).I ρ))=some (v.I ρ):=by
 unfold Nt at R
 split at R
 ·rename_i hs
  simp only[Bool.and_eq_true]at hs
  have cu:(bE P ty).isSome=true:=hs.1
  obtain⟨_,_,A,R⟩:=cX u R
  cases R
  have A:=eG A
  simp only[U.I]at A
  simp only[X.I,i_,cu,jE hs.2,and_self,if_true,mo,Sc.I]
  congr 3
  omega
 ·cases R
def EJ (h:au) (B:J) (z:Nat):X->T Rows
 | .slv m z' off len _=>match y_ h m with
  | some (w,n,l)=>if(Nat.beq z' z&&Nat.beq w z)=true then
    want B (mkNot (mkLt off (.lit 0))) fun B=>want B (mkNot (mkLt len (.lit 0))) fun B=>want B (mkNot (mkLt n (mkAdd off len))) fun _ =>
     .ret (.r len (match off with | .lit 0=>l | off => .drop off l))
   else (.fail ["elemsT"])
  | none => (.fail ["rowsAt"])
 | x=>eH (EK h z x)
theorem Ah {z:Nat}:∀(D:List (List AV)) (k:Nat),(∀(j:Nat) (e:List AV),D[j]? = some e->e.length=z)->k<=D.length->chunk z k D.flatten=D.take k
 | _,0,_,_=>by simp[chunk]
 | [],k+1,_,h=>by simp at h
 | e::D,k+1,h,u=>by
  have h0:=h 0 e rfl
  simp only[chunk,List.flatten_cons,List.take_succ_cons]
  rw[List.take_append_of_le_length (by omega),List.take_of_length_le (by omega),<-h0,List.drop_append_of_le_length (Nat.le_refl _),List.drop_length,List.nil_append,h0,
   Ah D k (fun j e' O=>h (j+1) e' (by simpa using O)) (by simpa using u)]
theorem Lw {z:Nat}:∀(k:Nat) (D:List (List AV)),(∀(j:Nat) (e:List AV),D[j]? = some e->e.length=z)->D.flatten.drop (k*z)=(D.drop k).flatten
 | 0,D,_=>by simp
 | k+1,[],_=>by simp
 | k+1,e::D,h=>by
  have h0:=h 0 e rfl
  rw[List.flatten_cons,List.drop_succ_cons,Nat.succ_mul,Nat.add_comm,<-List.drop_drop,<-h0,List.drop_append_of_le_length (Nat.le_refl _),List.drop_length,List.nil_append,h0]
  exact Lw k D (fun j e' O=>h (j+1) e' (by simpa using O))
theorem Tq {ρ:aa} {h:au} {B:J} {z:Nat} {x:X} {r:Rows} (u:J.ok ρ B) (G:(EJ h B z x).aq ρ=some r):er (aO ρ h) z (x.I ρ)=some (r.I ρ):=by
 unfold EJ at G
 split at G
 ·split at G
  ·rename_i m z' off len own auw w n l hr
   split at G
   ·rename_i H
    simp only[Bool.and_eq_true]at H
    have BK:=Nat.eq_of_beq_eq_true H.1
    have Vo:=Nat.eq_of_beq_eq_true H.2
    subst BK Vo
    obtain⟨fd,bp,c1,G⟩:=cX u G
    obtain⟨lw,dO,c2,G⟩:=cX bp G
    obtain⟨zI,qC,c3,G⟩:=cX dO G
    cases G
    have c1:=eG c1
    have c2:=eG c2
    have c3:=eG c3
    rw[fe]at c3
    simp only[U.I]at c1 c2
    obtain⟨a,ha⟩:∃a:Nat,off.I ρ=a:=⟨(off.I ρ).toNat,by omega⟩
    obtain⟨b,hb⟩:∃b:Nat,len.I ρ=b:=⟨(len.I ρ).toNat,by omega⟩
    obtain⟨c,hcn⟩:∃c:Nat,n.I ρ=c:=⟨(n.I ρ).toNat,by omega⟩
    obtain⟨Z,hw⟩:=HR (ρ:=ρ) hr
    have aZ:a+b<=c:=by omega
    have E:(a+b)*w<=c*w:=Nat.mul_le_mul_right w aZ
    rw[Nat.add_mul]at E
    simp only[X.I,er,Z,Option.bind_some,ha,hb,Int.toNat_natCast,wc hw,hcn]
    rw[if_pos ⟨trivial,E⟩,Lw a _ (fun j e h=>CH hw j e h),Ah _ _ (fun j e h=>CH hw (a+j) e (by rw[List.getElem?_drop]at h;exact h)) (by rw[List.length_drop,pQ];omega)]
    simp only[Rows.I,Option.some.injEq]
    apply List.ext_getElem?
    intro j
    rw[List.getElem?_take,List.getElem?_drop]
    by_cases O:j<b
    ·rw[if_pos O,mD (by omega),mD (by omega)]
     congr 1
     split
     ·simp only[U.I]at ha
      rw[show a+j=j from by omega]
     ·simp only[RL.row,ha]
      congr 1
      omega
    ·rw[if_neg O,List.getElem?_eq_none (by rw[pQ];omega)]
   ·cases G
  ·cases G
 ·exact Tr (e6 G)
def Rows.ZH:Rows->Option Rows
 | .c D=>(oQ D).map fun m => .r (.lit D.length) m
 | .r n l=>some (.r n l)
theorem Rows.asT {ρ:aa} {a b:Rows} (h:a.ZH=some b):b.I ρ=a.I ρ/\b.len=a.len:=by
 cases a with
 | c D =>
  obtain⟨m,hm,rfl⟩:=Option.map_eq_some_iff.1 h
  exact⟨Iy hm,rfl⟩
 | r n l=>cases h;exact⟨rfl,rfl⟩
def Rows.cut (B:J) (len off:U) (l:RL):Rows :=
 match red B (mkEq len (.lit 0))with
 | .lit true => .c []
 | _ => .r len (.drop off l)
theorem Yo {ρ:aa} {n len off:U} {l:RL} (h0:0<=off.I ρ) (A:0<=len.I ρ) (hn:n.I ρ=off.I ρ+len.I ρ):(aV ρ n l).drop (off.I ρ).toNat=aV ρ len (.drop off l):=by
 obtain⟨a,ha⟩:∃a:Nat,off.I ρ=a:=⟨(off.I ρ).toNat,by omega⟩
 obtain⟨b,hb⟩:∃b:Nat,len.I ρ=b:=⟨(len.I ρ).toNat,by omega⟩
 apply List.ext_getElem?
 intro j
 rw[List.getElem?_drop,ha,Int.toNat_natCast]
 by_cases O:j<b
 ·rw[mD (by omega),mD (by omega)]
  simp only[RL.row,ha]
  congr 2
  omega
 ·rw[List.getElem?_eq_none (by rw[pQ];omega),List.getElem?_eq_none (by rw[pQ];omega)]
theorem Rows.adS {ρ:aa} {B:J} (u:J.ok ρ B) {n len off:U} {l:RL} (h0:0<=off.I ρ) (A:0<=len.I ρ) (hn:n.I ρ=off.I ρ+len.I ρ):(Rows.cut B len off l).I ρ=(aV ρ n l).drop (off.I ρ).toNat/\(Rows.cut B len off l).len.I ρ=len.I ρ:=by
 unfold Rows.cut
 split
 ·rename_i G
  have:=c9 u (mkEq len (.lit 0))
  rw[G,eQ]at this
  have hz:len.I ρ=0:=by
   have:=of_decide_eq_true this.symm
   exact this
  constructor
  ·rw[Yo h0 A hn];simp[Rows.I,X.aX,aV,hz]
  ·simp[Rows.len,U.I,hz]
 ·exact⟨(Yo h0 A hn).symm,rfl⟩
def Jz (n z b:Nat) (h:au) (B:J) (fs:Rows) (m:Nm) (w:Nat) (off len:U) (own:Bool):T (X×aL) :=
 match y_ h m with
 | some (w',n',l)=>if(Nat.beq w z&&(Nat.beq w' z&&own))=true then
   (if(off.beq (.lit 0)&&n'.beq len)=true then
    vQ B (.r len l) fs b fun _ => if HT fs = true then eH (y' n z [(m, none)] (.r len l) fs) else (.fail ["one"])
   else want B (mkNot (mkLt off (.lit 0))) fun B=>want B (mkEq n' (mkAdd off len)) fun B=>want B (mkNot (mkLt len (.lit 0))) fun B =>
    match fs.ZH with
    | some fs => vQ B (Rows.cut B len off l) fs b fun _ => if HT fs = true then eH (y' n z [(m, none)] (Rows.cut B len off l) fs) else (.fail ["one"])
    | none => (.fail ["toR"]))
  else (.fail ["apV"])
 | none => (.fail ["rowsAt"])
def Jw (n z b:Nat) (B:J) (cs:List X) (fs:Rows) (m:Nm) (w off len:Nat) (own:Bool):T (X×aL) :=
 if(Nat.beq w z&&(own&&Nat.beq cs.length (off+len*z)))=true then
  vQ B (.c (nW z len (cs.drop off))) fs b fun _ => if HT fs = true then eH (y' n z [(m, none)] (.c (nW z len (cs.drop off))) fs) else (.fail ["one"])
 else (.fail ["apC"])
theorem acI {P:Program} {ρ:aa} {n z:Nat} {mu:Bool} {e:TypeId} {h:au} {B:J} (u:J.ok ρ B) {fs:Rows} {m:Nm} {w:Nat} {off len:U} {own:Bool} {r:X×aL} (R:(Jz n z (de P e) h B fs m w off len own).aq ρ=some r) :
  jm P n (aO ρ h) mu e z ((X.slv m w off len own).I ρ) (some (fs.I ρ))=some (r.1.I ρ,bk ρ r.2):=by
 unfold Jz at R
 split at R
 ·rename_i w' n' l hr
  split at R
  ·rename_i H
   simp only[Bool.and_eq_true]at H
   obtain⟨g1,g2,g4⟩:=H
   have g1:=Nat.eq_of_beq_eq_true g1
   have g2:=Nat.eq_of_beq_eq_true g2
   subst g1 g2
   obtain⟨Z,hw⟩:=HR (ρ:=ρ) hr
   split at R
   ·rename_i H
    simp only[Bool.and_eq_true]at H
    obtain⟨g3,g5⟩:=H
    have g3:=U.beq_eq _ _ g3
    have g5:=U.beq_eq _ _ g5
    subst g3 g5
    obtain⟨aS,_,la,lm,c1,c2,R⟩:=zi u R
    split at R
    ·rename_i gA
     have hn:=HS la lm (e6 R)
     have M:(aV ρ n' l).length=(n'.I ρ).toNat:=pQ ρ n' l
     simp only[Rows.I]at c1 c2 hn
     have Dt:(U.lit 0).I ρ=0:=rfl
     simp only[X.I,jm,Z,Dt,Int.toNat_zero,Nat.zero_mul]
     rw[if_pos ⟨trivial,g4⟩]
     simp only[um]
     rw[if_pos ⟨by rw[wc hw,Nat.zero_add],Py gA,by rw[<-M];exact c1,by rw[<-M];exact c2⟩,List.drop_zero,hn,M]
     rfl
    ·cases R
   ·obtain⟨fd,bp,c1,R⟩:=cX u R
    obtain⟨lw,dO,c2,R⟩:=cX bp R
    obtain⟨zI,qC,c3,R⟩:=cX dO R
    have c1:=eG c1
    rw[eQ]at c2
    have c2:=of_decide_eq_true c2
    have c3:=eG c3
    rw[fe]at c2
    have Dt:(U.lit 0).I ρ=0:=rfl
    rw[Dt]at c1 c3
    have c1:0<=off.I ρ:=by omega
    have c3:0<=len.I ρ:=by omega
    split at R
    ·rename_i gs hgs
     have ka:=Rows.asT (ρ:=ρ) hgs
     have hcd:=Rows.adS (l:=l) qC c1 c3 c2
     obtain⟨aS,_,la,lm,d1,d2,R⟩:=zi qC R
     split at R
     ·rename_i gA
      have hn:=HS la lm (e6 R)
      have M:((aV ρ n' l).drop (off.I ρ).toNat).length=(len.I ρ).toNat:=by rw[List.length_drop,pQ];omega
      have gA:=Py (ρ:=ρ) gA
      rw[hcd.1,ka.1,M]at d1 d2 hn
      rw[ka.1]at gA
      simp only[X.I,jm,Z]
      rw[if_pos ⟨trivial,g4⟩]
      simp only[um]
      have hF:(aV ρ n' l).flatten.length=(off.I ρ).toNat*w'+(len.I ρ).toNat*w':=by rw[wc hw,<-Nat.add_mul];congr 1;omega
      rw[if_pos ⟨hF,gA,d1,d2⟩,Lw _ _ (fun j e h=>CH hw j e h),hn]
      rfl
     ·cases R
    ·cases R
  ·cases R
 ·cases R
theorem acD {P:Program} {ρ:aa} {n z:Nat} {mu:Bool} {e:TypeId} {h:au} {B:J} (u:J.ok ρ B) {cs:List X} {fs:Rows} {m:Nm} {w off len:Nat} {own:Bool} {r:X×aL} (Z:ph h m=some cs) (R:(Jw n z (de P e) B cs fs m w off len own).aq ρ=some r) :
  jm P n (aO ρ h) mu e z (.sl m w off len own) (some (fs.I ρ))=some (r.1.I ρ,bk ρ r.2):=by
 unfold Jw at R
 split at R
 ·rename_i H
  simp only[Bool.and_eq_true]at H
  obtain⟨g1,g3,g4⟩:=H
  have g1:=Nat.eq_of_beq_eq_true g1
  have g4:=Nat.eq_of_beq_eq_true g4
  subst g1
  obtain⟨aS,_,la,lm,c1,c2,R⟩:=zi u R
  split at R
  ·rename_i gA
   have hn:=HS la lm (e6 R)
   have mb:(X.af ρ cs).length=off+len*w:=by rw[X.f_];exact g4
   have hf:(X.aX ρ (nW w len (cs.drop off))).flatten=(X.af ρ cs).drop off:=by rw[w7,X.xa];exact Ai w len _ (by rw[List.length_drop,mb];omega)
   have M:(X.aX ρ (nW w len (cs.drop off))).length=len:=by rw[w7,qi]
   simp only[Rows.I,hf,M]at c1 c2 hn
   simp only[jm,xV Z]
   rw[if_pos ⟨trivial,g3⟩]
   simp only[um]
   rw[if_pos ⟨mb,Py gA,c1,c2⟩,hn]
   rfl
  ·cases R
 ·cases R
def cD (n z b:Nat) (B:J) (m:Nm) (w:Nat) (off len:U) (own:Bool) (z':Nat) (k:U) (t:Nat) (D:List (List X)):Rows->T (X×aL)
 | .c fs=>if(Nat.beq w z&&(Nat.beq z' z&&(own&&(off.beq (.lit 0)&&(len.beq (mkAdd k (.lit D.length))&&(D.all (fun e=>Nat.beq e.length z)&&(e_ fs).all X.one))))))=true then
   vQ B (.r k (.one [])) (.c (D++fs)) b fun _ => .ret (.slv (n,0) z (.lit 0) (mkAdd k (.lit (D.length+fs.length:Nat))) true,[(m,none),((n,0),some [.tk z k t (D++fs)])])
  else (.fail ["apT"])
 | _ => (.fail ["apT"])
theorem acH {P:Program} {ρ:aa} {n z:Nat} {mu:Bool} {e:TypeId} {h:au} {B:J} (u:J.ok ρ B) {fs:Rows} {m:Nm} {w:Nat} {off len:U} {own:Bool} {z':Nat} {k:U} {t:Nat} {D:List (List X)} {r:X×aL} (Z:bh h m=some [.tk z' k t D]) (R:(cD n z (de P e) B m w off len own z' k t D fs).aq ρ=some r) :
  jm P n (aO ρ h) mu e z ((X.slv m w off len own).I ρ) (some (fs.I ρ))=some (r.1.I ρ,bk ρ r.2):=by
 unfold cD at R
 split at R
 ·rename_i fs
  split at R
  ·rename_i H
   simp only[Bool.and_eq_true]at H
   obtain⟨g1,g2,g3,g4,g5,g6,g7⟩:=H
   have g1:=Nat.eq_of_beq_eq_true g1
   have g2:=Nat.eq_of_beq_eq_true g2
   have g4:=U.beq_eq _ _ g4
   have g5:=U.beq_eq _ _ g5
   subst g1 g2 g4 g5
   obtain⟨aS,_,la,lm,c1,c2,R⟩:=zi u R
   cases R
   have la:0<=k.I ρ:=la
   have kc:(X.aX ρ fs).length=fs.length:=by simp[X.eg]
   have hT:(bC ρ z' k t).length=(k.I ρ).toNat:=by unfold bC;rw[List.length_map,List.length_range]
   have hE:(X.aX ρ D).length=D.length:=by simp[X.eg]
   have hR:(aV ρ k (.one [])).length=(k.I ρ).toNat:=pQ ρ k _
   have UC:X.aX ρ (D++fs)=X.aX ρ D++X.aX ρ fs:=by simp[X.eg]
   have hn:((mkAdd k (.lit D.length)).I ρ).toNat=(k.I ρ).toNat+D.length:=by rw[fe];simp only[U.I];omega
   have ke:((mkAdd k (.lit (D.length+fs.length:Nat))).I ρ).toNat=(k.I ρ).toNat+D.length+fs.length:=by rw[fe];simp only[U.I];omega
   simp only[Rows.I,UC,List.length_append,hR,hE,kc]at c1 c2
   have Dt:(U.lit 0).I ρ=0:=rfl
   have ae:ae (aO ρ h) m=some (bC ρ z' k t++X.aX ρ D).flatten:=by rw[cG,Z];rfl
   simp only[X.I,jm,ae,Dt,Int.toNat_zero,Nat.zero_mul,Rows.I]
   rw[if_pos ⟨trivial,g3⟩]
   simp only[um,kc]
   have hF:(bC ρ z' k t++X.aX ρ D).flatten.length=((k.I ρ).toNat+D.length)*z':=by
    rw[gS _ (fun j e h=>QB g6 j e h),List.length_append,hT,hE]
   rw[if_pos ⟨by rw[hF,hn,Nat.zero_add],by rw[<-qu];exact X.nO ρ _ g7,by rw[hn,Nat.add_assoc];exact c1,by rw[hn,Nat.add_assoc];exact c2⟩]
   simp only[hn,ke,bk,List.map_cons,List.map_nil,Option.map_some,Option.map_none,aA,UC,List.drop_zero,List.flatten_append,List.append_assoc]
  ·cases R
 ·cases R
def Jx (n:Nat) (mu:Bool) (z b:Nat) (h:au) (B:J) (fs:Rows):X->T (X×aL)
 | .sl m w off len own=>match ph h m,fs with
  | some cs,.c fs=>eH (Jy n z b m w off len own cs fs)
  | some cs,fs=>Jw n z b B cs fs m w off len own
  | _,_=>(.fail [])
 | .slv m w off len own=>match bh h m with
  | some [.tk z' k t D]=>cD n z b B m w off len own z' k t D fs
  | _=>Jz n z b h B fs m w off len own
 | s=>match z3 z s with
  | some D=>Jv n mu z b B D fs
  | none=>(.fail [])
theorem acE {P:Program} {n:Nat} {h:Hp} {mu:Bool} {e:TypeId} {z:Nat} {s:AV} {fs:List (List AV)} (hs:∀m w off len own,s ≠ .sl m w off len own):jm P n h mu e z s (some fs)=nP n mu z (de P e) fs (jn z s):=by
 cases s<;>first | rfl | exact absurd rfl (hs _ _ _ _ _)
theorem acF {P:Program} {ρ:aa} {n z:Nat} {mu:Bool} {e:TypeId} {h:au} {B:J} (u:J.ok ρ B) {fs:Rows} {s:X} {r:X×aL} (R:(Jx n mu z (de P e) h B fs s).aq ρ=some r) :
  jm P n (aO ρ h) mu e z (s.I ρ) (some (fs.I ρ))=some (r.1.I ρ,bk ρ r.2):=by
 unfold Jx at R
 split at R
 ·split at R
  ·exact acG (by assumption) (e6 R)
  ·exact acD u (by assumption) R
  ·cases R
 ·split at R
  ·exact acH u (by assumption) R
  ·exact acI u R
 ·rename_i hs i7
  rw[acE (fun m w off len own W=>by
   cases s with
   | sl _ _ _ _ _=>exact hs _ _ _ _ _ rfl
   | slv _ _ _ _ _=>exact i7 _ _ _ _ _ rfl
   | gd c x=>simp[z3,T.aq]at R
   | cJ _ _ _=>simp[z3,T.aq]at R
   | _=>simp only[X.I,reduceCtorEq]at W)]
  split at R
  ·rename_i D Bj
   rw[ac5 Bj]
   exact acC u R
  ·cases R
def JA (n:Nat) (mu:Bool) (i ag4:TI) (ti:Nat->Option TI) (h:au) (B:J) (s x:X):T (X×aL) :=
 match i.sl,ag4.sl with
 | some (e,z),some (e',z')=>match ti e with
  | some ie=>if(Nat.beq e e'&&(Nat.beq z z'&&I' ie z))=true then
    (EJ h B z x).bind B fun B fs=>Jx n mu z ie.kU h B fs s
   else(.fail [])
  | none=>(.fail [])
 | _,_=>(.fail [])
theorem acK {P:Program} {ρ:aa} {n:Nat} {mu:Bool} {ty xt:TypeId} {ti:Nat->Option TI} (a_:eL.ok P ti) {h:au} {B:J} (u:J.ok ρ B) {s x:X} {r:X×aL}
  (R:(JA n mu (cr P ty) (cr P xt) ti h B s x).aq ρ=some r):nQ P n (aO ρ h) mu ty xt (s.I ρ) (x.I ρ)=some (r.1.I ρ,bk ρ r.2):=by
 unfold JA at R
 split at R
 ·rename_i e z e' z' A E
  have pa:bE P ty=some (e,z):=A
  have xI:bE P xt=some (e',z'):=E
  split at R
  ·rename_i ie gx
   have gx:=a_ _ _ gx
   subst gx
   split at R
   ·rename_i H
    simp only[Bool.and_eq_true]at H
    have G:=Nat.eq_of_beq_eq_true H.1
    have hz:=Nat.eq_of_beq_eq_true H.2.1
    subst G hz
    simp only[nQ,pa,xI,aa3 H.2.2]
    rw[if_pos ⟨trivial,trivial⟩]
    obtain⟨aS,fs,aM,hf,R⟩:=T.cQ _ u R
    rw[Tq u hf]
    exact acF aM R
   ·cases R
  ·cases R
 ·cases R
def Kl (i:TI) (h:au) (s x:X):Option (X×aL) :=
 match i.sl with
 | some (_,z)=>match s,EK h z x with
  | .sl m w off len _,some (.c fs)=>match ph h m with
   | some cs=>if(Nat.beq w z&&(Nat.ble fs.length len&&(Nat.ble (off+fs.length*z) cs.length&&((e_ fs).all X.one && !b6 (tI cs off (e_ fs))))))=true then
     some (.sc (.i .i64 (.lit fs.length)),[(m,some (tI cs off (e_ fs)))])else none
   | none=>none
  | _,_=>none
 | none=>none
theorem adN {P:Program} {ρ:aa} {ty:TypeId} {h:au} {s x:X} {r:X×aL} (R:Kl (cr P ty) h s x=some r):w9 P (aO ρ h) ty (s.I ρ) (x.I ρ)=some (r.1.I ρ,bk ρ r.2):=by
 unfold Kl at R
 split at R
 ·rename_i e z hs
  have cu:bE P ty=some (e,z):=hs
  split at R
  ·rename_i m w off len own fs G
   split at R
   ·rename_i cs Z
    split at R
    ·rename_i H
     simp only[Bool.and_eq_true,Nat.ble_eq]at H
     obtain⟨g1,g2,g3,g4,g5⟩:=H
     have g1:=Nat.eq_of_beq_eq_true g1
     subst g1
     cases R
     have M:(X.aX ρ fs).length=fs.length:=by simp[X.eg]
     have qA:=Tr (ρ:=ρ) G
     simp only[w9,cu,qA,Rows.I,X.I,xV Z,M,X.f_,<-qu]
     rw[if_pos ⟨trivial,g2,g3,X.nO ρ _ g4⟩]
     simp only[Sc.I,U.I,bk,List.map_cons,List.map_nil,Option.map_some,cP (ρ:=ρ) (show b6 (tI cs off (e_ fs))=false by simpa using g5),Ii]
    ·cases R
   ·cases R
  ·cases R
 ·cases R
end Go.Proofs.Xw
namespace Go.Proofs.Xw
open Go Go.Proofs.Aw
def cm (g:Nat->X):Operand->X
 | .tmp i=>g i
 | .const v=>mz v
 | .global a => .k (.pointer (some ⟨a,0,none⟩))
 | .func f => .fn (.func f) [] []
def uP (g:Nat->X):List Operand->List X
 | []=>[]
 | x::xs=>cm g x::uP g xs
def AH (g:Nat->X):List (Nat×Operand)->List (Nat×X)
 | []=>[]
 | (i,x)::xs=>(i,cm g x)::AH g xs
section
variable {ρ:aa} {g:Nat->X} {t:Tp} (Z:∀i,(g i).I ρ=bR t i)
include Z
theorem eM (x:Operand):(cm g x).I ρ=ev t x:=by
 cases x with
 | tmp i=>exact Z i
 | const v=>exact W3 ρ v
 | global a=>rfl
 | func f=>simp only[cm,X.I,X.af,ev]
theorem EW:∀l:List Operand,X.af ρ (uP g l)=n7 t l
 | []=>rfl
 | x::xs=>by simp only[uP,X.af,n7,eM Z x,EW xs]
theorem K6:∀l:List (Nat×Operand),mN ρ (AH g l)=uQ t l
 | []=>rfl
 | (i,x)::xs=>by
  have:=K6 xs
  simp only[mN]at this
  simp only[AH,mN,List.map_cons,uQ,eM Z x,this]
end
inductive XR where
 | ok (r:X) (d:aL)
 | call (f:FuncId) (args:List X)
def strip (B:J):X->X
 | .gd c x=>match red B c with
  | .lit true=>x
  | .lit false => .k undef
  | _ => .gd c x
 | x=>x
theorem Ql {ρ:aa} {B:J} (u:J.ok ρ B) (x:X):(strip B x).I ρ=x.I ρ:=by
 unfold strip
 split
 ·rename_i c x
  have hr:=c9 u c
  split
  ·rename_i hd;rw[hd]at hr;simp only[X.I,<-hr,BE.I,if_true]
  ·rename_i hd;rw[hd]at hr;simp only[X.I,<-hr,BE.I];rfl
  ·rfl
 ·rfl
def O4 (B:J):X->X->X->Option X
 | .sc (.b e),a,b=>match red B e with
  | .lit true=>some a
  | .lit false=>some b
  | d=>X.en d (strip (assume d true B) a) (strip (assume d false B) b)
 | _,_,_=>none
theorem aoJ {ρ:aa} {B:J} (u:J.ok ρ B) {c a b v:X} (h:O4 B c a b=some v):yR (c.I ρ) (a.I ρ) (b.I ρ)=some (v.I ρ):=by
 unfold O4 at h
 split at h
 ·rename_i e
  have hr:=c9 u e
  split at h
  ·rename_i hd;cases h;rw[hd]at hr;simp only[X.I,Sc.I,<-hr,BE.I,yR]
  ·rename_i hd;cases h;rw[hd]at hr;simp only[X.I,Sc.I,<-hr,BE.I,yR]
  ·rw[X.Ca _ _ _ h]
   simp only[X.I,Sc.I]
   by_cases hd:BE.I ρ (red B e)=true
   ·rw[if_pos hd,Ql (gn _ true B hd u),<-hr,hd];rfl
   ·have xO:BE.I ρ (red B e)=false:=by simpa using hd
    rw[if_neg hd,Ql (gn _ false B xO u),<-hr,xO];rfl
 ·cases h
def Oq (h:au):X->Option X
 | .ptr n aG d=>if iu h n=true then some (.ptr n aG d)else none
 | .ip cs aG d=>some (.ip cs aG d)
 | .fn (.func f) xs ys=>some (.fn (.func f) xs ys)
 | _=>none
theorem aiW {ρ:aa} {h:au} {x v:X} (R:Oq h x=some v):vH (aO ρ h) (x.I ρ)=some (v.I ρ):=by
 unfold Oq at R
 split at R
 ·split at R
  ·rename_i ho;cases R;simp only[X.I,vH,jE ho,if_true]
  ·cases R
 ·cases R;simp only[X.I,vH]
 ·cases R;simp only[X.I,vH]
 ·cases R
def q9:BinOp->Bool->Option X
 | .eql,b=>some (.sc (.b (.lit b)))
 | .neq,b=>some (.sc (.b (.lit (!b))))
 | _,_=>none
theorem vG {ρ:aa} {op:BinOp} {b:Bool} {v:X} (h:q9 op b=some v):mw op b=some (v.I ρ):=by
 unfold q9 at h
 split at h<;>first | cases h | skip
 ·rfl
 ·rfl
def On (t:TI) (h:au) (op:BinOp) (x:X):Option X :=
 match t.sl with
 | some _=>match x with
  | .sl m _ _ _ _=>if iu h m=true then q9 op false else none
  | .slv m _ _ _ _=>if iu h m=true then q9 op false else none
  | .ro _ (_::_) _=>q9 op false
  | .k (.slice none 0 0)=>q9 op true
  | _=>none
 | none=>none
theorem aiU {P:Program} {ρ:aa} {ty:TypeId} {h:au} {op:BinOp} {x v:X} (R:On (cr P ty) h op x=some v):gP P (aO ρ h) op ty (x.I ρ) (.sc (.slice none 0 0))=some (v.I ρ):=by
 unfold On at R
 split at R
 ·rename_i p hs
  have cu:bE P ty=some p:=hs
  have e:∀y,gp P op ty y (.sc (.slice none 0 0))=none:=fun y=>by
   unfold gp
   split<;>simp_all
  unfold gP
  rw[e]
  simp only[kA,cu]
  split at R
  ·split at R
   ·rename_i hm
    simp only[X.I]
    rw[if_pos (jE hm)]
    exact vG R
   ·cases R
  ·split at R
   ·rename_i hm
    simp only[X.I]
    rw[if_pos (jE hm)]
    exact vG R
   ·cases R
  ·simp only[X.I,X.aX]
   exact vG R
  ·simp only[X.I]
   exact vG R
  ·cases R
 ·cases R
def Om (t:TI) (h:au) (B:J) (op:BinOp):X->T X
 | .rl _ n _ _=>match t.sl with
  | some _=>want B (.lt (.lit 0) n) fun _=>eH (q9 op false)
  | none => .fail []
 | x=>eH (On t h op x)
theorem aqJ {ρ:aa} {n:U} {l:RL} (h:0<n.I ρ):∃a b,aV ρ n l=a::b:=by
 unfold aV
 obtain⟨m,hm⟩:∃m,(n.I ρ).toNat=m+1:=⟨(n.I ρ).toNat-1,by omega⟩
 rw[hm,List.range_succ_eq_map]
 exact⟨_,_,rfl⟩
theorem aiT {P:Program} {ρ:aa} {ty:TypeId} {h:au} {B:J} {op:BinOp} {x v:X} (u:J.ok ρ B) (R:(Om (cr P ty) h B op x).aq ρ=some v):gP P (aO ρ h) op ty (x.I ρ) (.sc (.slice none 0 0))=some (v.I ρ):=by
 unfold Om at R
 split at R
 ·split at R
  ·rename_i p hs
   have cu:bE P ty=some p:=hs
   have e:∀y,gp P op ty y (.sc (.slice none 0 0))=none:=fun y=>by
    unfold gp
    split<;>simp_all
   obtain⟨_,_,H,R⟩:=cX u R
   simp only[BE.I,U.I]at H
   obtain⟨a,b,xK⟩:=aqJ (of_decide_eq_true H)
   unfold gP
   rw[e]
   simp only[kA,cu,X.I]
   rw[xK]
   exact vG (e6 R)
  ·cases R
 ·exact aiU (e6 R)
def Pf (t:TI) (h:au) (op:BinOp) (x:X):Option X :=
 match t.pt with
 | true=>match x with
  | .ptr m _ _=>if iu h m=true then q9 op false else none
  | .k (.pointer none)=>q9 op true
  | _=>none
 | false=>none
theorem apc {P:Program} {ρ:aa} {ty:TypeId} {h:au} {op:BinOp} {x v:X} (R:Pf (cr P ty) h op x=some v):gP P (aO ρ h) op ty (x.I ρ) (.sc (.pointer none))=some (v.I ρ):=by
 unfold Pf at R
 split at R
 ·rename_i hs
  have cu:CA P ty=true:=hs
  have e:∀y,gp P op ty y (.sc (.pointer none))=none:=fun y=>by
   unfold gp
   split<;>simp_all
  unfold gP
  rw[e]
  simp only[kA,cu]
  split at R
  ·split at R
   ·rename_i hm
    simp only[X.I]
    rw[if_pos (jE hm)]
    exact vG R
   ·cases R
  ·simp only[X.I]
   exact vG R
  ·cases R
 ·cases R
def NQ (n:Nat) (i:TI) (ti:Nat->Option TI) (B:J):X->X->T (X×aL)
 | .sc (.i _ a),.sc (.i _ b)=>match i.sl with
  | some (e,z)=>match ti e with
   | some ie=>match ie.zero with
    | some zs=>if(Nat.beq zs.length z&&a.beq b)=true then
      want B (mkNot (mkLt a (.lit 0))) fun B=>want B (mkNot (mkLt (.lit (z_ ie.kU)) a)) fun _ =>
       match a with
       | .lit m => if b6 (e_ (List.replicate m.toNat (zs.map mz))) = true then (.fail ["make"]) else .ret (.sl (n, 0) z 0 m.toNat true, [((n, 0), some (e_ (List.replicate m.toNat (zs.map mz))))])
       | a=>match oS (zs.map mz)with
        | some r => if Nat.beq r.length z = true then .ret (.slv (n, 0) z (.lit 0) a true, [((n, 0), some [.rows z a (.one r)])]) else (.fail ["make"])
        | none => (.fail ["make"])
     else (.fail ["make"])
    | none => (.fail ["make"])
   | none => (.fail ["make"])
  | none => (.fail ["make"])
 | _, _ => (.fail ["make"])
theorem aa1 (zc:List AV):∀m:Nat,mF m zc=(List.replicate m zc).flatten
 | 0=>rfl
 | m+1=>by simp only[mF,List.replicate_succ,List.flatten_cons,aa1 zc m]
theorem aqK {ρ:aa} {a:U} {r:List Sc}:aV ρ a (.one r)=List.replicate (a.I ρ).toNat (ca ρ r):=by
 apply List.ext_getElem?
 intro j
 by_cases O:j<(a.I ρ).toNat
 ·rw[mD (by omega),List.getElem?_replicate,if_pos O];rfl
 ·rw[List.getElem?_eq_none (by rw[pQ];omega),List.getElem?_replicate,if_neg O]
theorem ah7 {P:Program} {ρ:aa} {n:Nat} {ty:TypeId} {ti:Nat->Option TI} (a_:eL.ok P ti) {B:J} (u:J.ok ρ B) {x y:X} {r:X×aL} (h:(NQ n (cr P ty) ti B x y).aq ρ=some r) :
  sZ P n ty (x.I ρ) (y.I ρ)=some (r.1.I ρ,bk ρ r.2):=by
 unfold NQ at h
 split at h
 ·rename_i k a k' b
  split at h
  ·rename_i e z hs
   have cu:bE P ty=some (e,z):=hs
   split at h
   ·rename_i ie gx
    have gx:=a_ _ _ gx
    subst gx
    split at h
    ·rename_i zs x9
     have hz:fz P e=some (zs.map AV.sc):=by rw[I9];have:zeroV P e=some zs:=x9;rw[this];rfl
     split at h
     ·rename_i H
      simp only[Bool.and_eq_true]at H
      have M:=Nat.eq_of_beq_eq_true H.1
      have xK:=U.beq_eq _ _ H.2
      subst xK
      obtain⟨fd,bp,c1,h⟩:=cX u h
      obtain⟨lw,dO,c2,h⟩:=cX bp h
      have c1:=eG c1
      have c2:=eG c2
      simp only[U.I]at c1 c2
      have uW:(cr P e).kU=de P e:=rfl
      rw[uW]at c2
      have f2:=El (b:=de P e) (n:=(a.I ρ).toNat) (by omega)
      have key:sZ P n ty ((X.sc (.i k a)).I ρ) ((X.sc (.i k' a)).I ρ)=some (.sl (n,0) z 0 (a.I ρ).toNat true,[((n,0),some (List.replicate (a.I ρ).toNat (zs.map AV.sc)).flatten)]):=by
       simp only[X.I,Sc.I,sZ,cu,hz]
       rw[if_pos ⟨by rw[List.length_map];exact M,by omega,trivial,f2.1,by omega⟩,aa1]
      rw[key]
      cases a with
      | lit m =>
       simp only at h
       split at h
       ·cases h
       ·rename_i hr
        cases h
        have G:X.aX ρ (List.replicate m.toNat (zs.map mz))=List.replicate m.toNat (zs.map AV.sc):=by
         rw[X.eg,List.map_replicate,G3]
        simp only[X.I,U.I,bk,List.map_cons,List.map_nil,Option.map_some,cP (ρ:=ρ) (show b6 (e_ (List.replicate m.toNat (zs.map mz)))=false by simpa using hr),qu,G]
      | _ =>
       simp only at h
       split at h
       ·rename_i q hq
        split at h
        ·cases h
         have hJ:=zq (ρ:=ρ) hq
         rw[G3]at hJ
         simp only[X.I,U.I,Int.toNat_zero,Nat.zero_mul,bk,List.map_cons,List.map_nil,Option.map_some,aA,aqK,hJ]
        ·cases h
       ·cases h
     ·cases h
    ·cases h
   ·cases h
  ·cases h
 ·cases h
def nk (o:Option X):T XR:=eH (o.map fun v => .ok v [])
def pG (t:T X):T XR:=t.map fun v => .ok v []
def gF (ti:Nat->Option TI) (t:Nat) (k:TI->T XR):T XR:=match ti t with
 | some i=>k i
 | none=>(.fail [])
def NF (i:TI) (h:au) (B:J):X->T X
 | .dv m z j o=>ND i h B m z j o
 | x=>eH (Gf i h x)
theorem ahT {P:Program} {ρ:aa} {ty:TypeId} {h:au} {B:J} {x v:X} (u:J.ok ρ B) (R:(NF (cr P ty) h B x).aq ρ=some v):oq P (aO ρ h) ty (x.I ρ)=some (v.I ρ):=by
 unfold NF at R
 split at R
 ·exact ahS u R
 ·exact V1 (e6 R)
def Qi (i:TI) (h:au) (B:J) (x:X) (ys:List X):T aL :=
 match x with
 | .dv m z j o=>Qh i h B m z j o ys
 | x=>eH (Qj i h x ys)
theorem arV {P:Program} {ρ:aa} {ty:TypeId} {h:au} {B:J} {x:X} {ys:List X} {d:aL} (u:J.ok ρ B) (R:(Qi (cr P ty) h B x ys).aq ρ=some d):ys.all X.one=true/\pU P (aO ρ h) ty (x.I ρ) (X.af ρ ys)=some (bk ρ d):=by
 unfold Qi at R
 split at R
 ·exact arU u R
 ·exact arW (e6 R)
def MU (i:TI) (h:au) (B:J) (x y:X):T X :=
 match x,y with
 | .slv m z off len _,.sc (.i _ e)=>MW i h B m z off len e
 | .dv m z j o,.sc (.i _ (.lit e))=>match i.arr with
  | some (len, z') => if (iu h m && (decide (0 <= e) && decide (e < len))) = true then .ret (.dv m z j (o + e.toNat * z')) else (.fail ["idxAddrW"])
  | none => (.fail ["idxAddrW"])
 | x,y=>MV i h B x y
theorem agG {P:Program} {ρ:aa} {ty:TypeId} {h:au} {B:J} {x y v:X} (u:J.ok ρ B) (R:(MU (cr P ty) h B x y).aq ρ=some v):jz P (aO ρ h) ty (x.I ρ) (y.I ρ)=some (v.I ρ):=by
 unfold MU at R
 split at R
 ·exact agI u R
 ·split at R
  ·rename_i m z j o k e len z' ha
   have dz:ep P ty=some (len,z'):=ha
   split at R
   ·rename_i H
    simp only[Bool.and_eq_true,decide_eq_true_eq]at H
    cases R
    simp only[X.I,Sc.I,U.I,jz,dz,FN,jE H.1]
    rw[if_pos ⟨trivial,H.2.1,H.2.2⟩]
    congr 2
    omega
   ·cases R
  ·cases R
 ·exact agH u R
def Iz (i:TI):X->U
 | .slv _ _ _ len _=>len
 | x=>p4 i x
def P8 (i:TI) (h:au) (B:J) (x:X) (lo hi:U) (hn:Bool):T X :=
 match x with
 | .slv m z off len own=>P_ i h B m z off len own lo hi
 | x=>P9 i h B x lo hi hn
theorem arB {P:Program} {ρ:aa} {ty:TypeId} {h:au} {B:J} {x v:X} {lo hi:Option X} {l r:U} (u:J.ok ρ B) (M:nU lo (.lit 0)=some l) (hr:nU hi (Iz (cr P ty) x)=some r)
  (R:(P8 (cr P ty) h B x l r hi.isNone).aq ρ=some v):∃w,pS P (aO ρ h) ty (x.I ρ) (lo.map (X.I ρ)) (hi.map (X.I ρ)) none=some w/\bT (v.I ρ) w:=by
 unfold P8 at R
 split at R
 ·exact⟨_,arF u M hr R,bT.refl _⟩
 ·rename_i hx
  refine arC u M ?_ R
  have:Iz (cr P ty) x=p4 (cr P ty) x:=by
   unfold Iz
   split
   ·exact absurd rfl (hx _ _ _ _ _)
   ·rfl
  rw[<-this];exact hr
def Nu (i:TI) (h:au) (B:J):X->T X
 | .slv m _ _ len _=>Nt i h B m len
 | x=>Nv i h B x
theorem ahK {P:Program} {ρ:aa} {ty:TypeId} {h:au} {B:J} {x v:X} (u:J.ok ρ B) (R:(Nu (cr P ty) h B x).aq ρ=some v):mo (i_ P (aO ρ h) ty (x.I ρ))=some (v.I ρ):=by
 unfold Nu at R
 split at R
 ·exact ahJ u R
 ·exact ahL u R
def Qf (ti:Nat->Option TI) (n:Nat) (mu:Bool) (g:Nat->X) (h:au) (B:J):Op->T XR
 | .move x => .ret (.ok (cm g x) [])
 | .assign x => .ret (.ok (cm g x) [])
 | .pick c a b=>nk (O4 B (cm g c) (cm g a) (cm g b))
 | .alloc e=>gF ti e fun i=>eH (i.zero.bind fun zs=>if b6 (zs.map mz)=true then none else some (.ok (.ptr (n,0) [] 0) [((n,0),some (zs.map mz))]))
 | .box _ x=>if(cm g x).cells.all X.one=true then .ret (.ok (.ptr (n,0) [] 0) [((n,0),some (cm g x).cells)])else(.fail [])
 | .load ty x=>gF ti ty fun i=>pG (NF i h B (cm g x))
 | .store ty x y=>gF ti ty fun i=>(Qi i h B (cm g x) (cm g y).cells).map fun d => .ok (.k undef) d
 | .nilCheck x=>nk (Oq h (cm g x))
 | .indexAddr ty x i=>gF ti ty fun t=>pG (MU t h B (cm g x) (cm g i))
 | .fieldAddr ty x f=>gF ti ty fun t=>nk (Lo t h f (cm g x))
 | .field ty x f=>gF ti ty fun t=>nk (Lp t f (cm g x))
 | .index ty x i=>gF ti ty fun t=>pG (MY t B (cm g x) (cm g i))
 | .slice ty x lo hi none=>gF ti ty fun t=>match nU (lo.map (cm g)) (.lit 0),nU (hi.map (cm g)) (Iz t (cm g x))with
  | some l,some r=>pG (P8 t h B (cm g x) l r hi.isNone)
  | _,_=>(.fail [])
 | .slice ty x lo (some hi) (some mx)=>gF ti ty fun t=>nk (P7 t h (cm g x) (lo.map (cm g)) (cm g hi) (cm g mx))
 | .binOp op ty x y _=>gF ti ty fun t=>match cm g y with
  | .k (.slice none 0 0)=>pG (Om t h B op (cm g x))
  | .k (.pointer none)=>nk (Pf t h op (cm g x))
  | _=>pG (JM t B op (cm g x) (cm g y))
 | .unOp op _ x=>pG (QM B op (cm g x))
 | .convert src dst x=>gF ti src fun s=>gF ti dst fun t=>pG (Kk B s t (cm g x))
 | .extract x i=>match cm g x with
  | .tup vs=>nk vs[i]?
  | _=>(.fail [])
 | .makeFunc f xs ys => .ret (.ok (.fn f (uP g xs.toList) (uP g ys.toList)) [])
 | .build ty ps=>gF ti ty fun t=>nk (JR t (AH g ps.toList))
 | .buildSlice ty len ps=>gF ti ty fun t=>eH ((JQ n mu t ti len (AH g ps.toList)).map fun p => .ok p.1 p.2)
 | .makeSlice ty l c=>gF ti ty fun t=>(NQ n t ti B (cm g l) (cm g c)).map fun p => .ok p.1 p.2
 | .call ⟨.builtin b,args,gH⟩=>match b,gH.toList,uP g args.toList with
  | .len,ty::_,x::_=>gF ti ty fun t=>pG (Nu t h B x)
  | .max,_,x::xs=>nk (B6 x xs)
  | .min,_,x::xs=>nk (B9 x xs)
  | .append,[ty,xt],[s,x]=>gF ti ty fun t=>gF ti xt fun t'=>(JA n mu t t' ti h B s x).map fun p => .ok p.1 p.2
  | .copy,[ty,_],[s,x]=>gF ti ty fun t=>eH ((Kl t h s x).map fun p => .ok p.1 p.2)
  | b,_,xs=>nk (Al b xs)
 | .call ⟨.value x,args,_⟩=>match cm g x with
  | .fn (.func f) xs ys => .ret (.call f (xs++(uP g args.toList++ys)))
  | _=>(.fail [])
 | _=>(.fail [])
theorem eb {P:Program} {n:Nat} {mu:Bool} {op:Op} {t:Tp} {h:Hp} {r:AV} {d:Dl} (G:cC P n mu t h op = .ok r d):Aw.Yields P n op t h r d:=by
 obtain⟨r',fE,hy,A,E⟩:=Qd (Zg (K:=fun a b=>a=r/\b=d) G ⟨rfl,rfl⟩)
 subst A E;exact hy
theorem acp {P:Program} {n:Nat} {op:Op} {t:Tp} {h:Hp} {r r':AV} {d:Dl} (hy:Aw.Yields P n op t h r d) (M:bT r' r):Aw.Yields P n op t h r' d:=by
 intro C a o next Q ho W ht hn u
 refine hy C a o next Q ho W ht hn fun Y C' hp=>u Y C' ?_
 exact⟨hp.le,hp.kn,hp.heap,M _ _ hp.val,hp.same,hp.mt,hp.os,hp.tape,hp.output,hp.lA,hp.names⟩
theorem acq {P:Program} {n:Nat} {mu:Bool} {op:Op} {t:Tp} {h:Hp} {r r':AV} {d:Dl} (G:cC P n mu t h op = .ok r d) (M:bT r' r):Aw.Yields P n op t h r' d:=acp (eb G) M
def XR.Za (ρ:aa) (P:Program) (n:Nat) (mu:Bool) (op:Op) (t:Tp) (h:Hp):XR->Prop
 | .ok r d=>Aw.Yields P n op t h (r.I ρ) (bk ρ d)
 | .call f args=>cC P n mu t h op = .call f (X.af ρ args)
theorem hY {P:Program} {ρ:aa} {ti:Nat->Option TI} (a_:eL.ok P ti) {t:Nat} {k:TI->T XR} {a:XR} (h:(gF ti t k).aq ρ=some a):(k (cr P t)).aq ρ=some a:=by
 unfold gF at h
 split at h
 ·rename_i i hi;rw[a_ _ _ hi]at h;exact h
 ·cases h
theorem oM {ρ:aa} {o:Option X} {a:XR} (h:(nk o).aq ρ=some a):∃v,o=some v/\a = .ok v []:=by
 obtain⟨v,A,E⟩:=Option.map_eq_some_iff.1 (e6 h)
 exact⟨v,A,E.symm⟩
theorem rB {ρ:aa} {o:T X} {a:XR} (h:(pG o).aq ρ=some a):∃v,o.aq ρ=some v/\a = .ok v []:=T.je o h
theorem ado {P:Program} {n:Nat} {mu:Bool} {h:Hp} {b:Builtin} {gH:List TypeId} {l:List X} {xs:List AV} {v:X} {r:AV} (R:Al b l=some v) (hb:uD b xs=some r):mM P n mu h b gH xs = .ok r []:=by
 cases b<;>first
  | (simp only[Al,reduceCtorEq]at R;done)
  | (simp only[mM,hb,c6])
theorem arR {P:Program} {ρ:aa} {ti:Nat->Option TI} (a_:eL.ok P ti) {n:Nat} {mu:Bool} {g:Nat->X} {t:Tp} (Z:∀i,(g i).I ρ=bR t i) {h:au} {B:J} (u:J.ok ρ B) {op:Op} {a:XR}
  (hs:(Qf ti n mu g h B op).aq ρ=some a):a.Za ρ P n mu op t (aO ρ h):=by
 unfold Qf at hs
 split at hs
 ·cases hs
  exact eb (mu:=mu) (by simp only[cC,eM Z];rfl)
 ·cases hs
  exact eb (mu:=mu) (by simp only[cC,eM Z];rfl)
 ·obtain⟨v,R,rfl⟩:=oM hs
  have:=aoJ u R
  simp only[eM Z]at this
  exact eb (mu:=mu) (by simp only[cC,this,c6];rfl)
 ·rename_i e
  obtain⟨zs,hz,hs⟩:=Option.bind_eq_some_iff.1 (e6 (hY a_ hs))
  split at hs
  ·cases hs
  ·rename_i hr
   cases hs
   have jv:zeroV P e=some zs:=hz
   refine eb (mu:=mu) ?_
   simp only[cC,I9,jv,Option.map_some,cg,X.I,choose,bk,List.map_cons,List.map_nil,cP (ρ:=ρ) (show b6 (zs.map mz)=false by simpa using hr),G3]
 ·split at hs
  ·rename_i x H
   cases hs
   refine eb (mu:=mu) ?_
   simp only[cC,<-eM Z,X.Ad ρ _ H,Eg,X.nO ρ _ H,if_true,X.I,choose,bk,List.map_cons,List.map_nil,Option.map_some,cP (ρ:=ρ) (agU H)]
  ·cases hs
 ·obtain⟨v,R,rfl⟩:=rB (hY a_ hs)
  refine eb (mu:=mu) ?_
  simp only[cC,<-eM Z,ahT u R,c6];rfl
 ·obtain⟨v,R,rfl⟩:=T.je _ (hY a_ hs)
  refine eb (mu:=mu) ?_
  obtain⟨A,E⟩:=arV (ρ:=ρ) u R
  simp only[cC,<-eM Z,X.Ad ρ _ A,E,Ga];rfl
 ·obtain⟨v,R,rfl⟩:=oM hs
  refine eb (mu:=mu) ?_
  simp only[cC,<-eM Z,aiW R,c6];rfl
 ·obtain⟨v,R,rfl⟩:=rB (hY a_ hs)
  refine eb (mu:=mu) ?_
  simp only[cC,<-eM Z,agG u R,c6];rfl
 ·obtain⟨v,R,rfl⟩:=oM (hY a_ hs)
  refine eb (mu:=mu) ?_
  simp only[cC,<-eM Z,aeY R,c6];rfl
 ·obtain⟨v,R,rfl⟩:=oM (hY a_ hs)
  refine eb (mu:=mu) ?_
  simp only[cC,<-eM Z,ae0 R,c6];rfl
 ·obtain⟨v,R,rfl⟩:=rB (hY a_ hs)
  refine eb (mu:=mu) ?_
  simp only[cC,<-eM Z,agM u R,c6];rfl
 ·rename_i ty x lo hi
  have hs:=hY a_ hs
  split at hs
  ·rename_i l r M hr
   obtain⟨v,R,rfl⟩:=rB hs
   have co:hi.isNone=(hi.map (cm g)).isNone:=by cases hi<;>rfl
   rw[co]at R
   obtain⟨w,hw,aZ⟩:=arB u M hr R
   refine acq (mu:=mu) (r:=w) ?_ aZ
   have e:∀o:Option Operand,(o.map (cm g)).map (X.I ρ)=k6 t o:=fun o=>by cases o<;>simp only[Option.map_none,Option.map_some,k6,eM Z]
   rw[e,e,eM Z]at hw
   have e0:k6 t none=none:=rfl
   simp only[cC,e0,hw,c6];rfl
  ·cases hs
 ·rename_i ty x lo hi mx
  obtain⟨v,R,rfl⟩:=oM (hY a_ hs)
  refine eb (mu:=mu) ?_
  have hw:=arA (ρ:=ρ) R
  have e:∀o:Option Operand,(o.map (cm g)).map (X.I ρ)=k6 t o:=fun o=>by cases o<;>simp only[Option.map_none,Option.map_some,k6,eM Z]
  have e':∀o:Operand,some ((cm g o).I ρ)=k6 t (some o):=fun o=>by simp only[k6,eM Z]
  rw[e,e',e',eM Z]at hw
  simp only[cC,hw,c6];rfl
 ·rename_i aux ty x y ty'
  have hs:=hY a_ hs
  split at hs
  ·rename_i hy
   obtain⟨v,R,rfl⟩:=rB hs
   refine eb (mu:=mu) ?_
   have A:=aiT (ρ:=ρ) u R
   have e2:(cm g y).I ρ = .sc (.slice none 0 0):=by rw[hy];rfl
   simp only[cC,<-eM Z,e2,A,c6];rfl
  ·rename_i hy
   obtain⟨v,R,rfl⟩:=oM hs
   refine eb (mu:=mu) ?_
   have A:=apc (ρ:=ρ) R
   have e2:(cm g y).I ρ = .sc (.pointer none):=by rw[hy];rfl
   simp only[cC,<-eM Z,e2,A,c6];rfl
  ·obtain⟨v,R,rfl⟩:=rB hs
   refine eb (mu:=mu) ?_
   simp only[cC,<-eM Z,ac9 (ada u R),c6];rfl
 ·obtain⟨v,R,rfl⟩:=rB hs
  refine eb (mu:=mu) ?_
  simp only[cC,<-eM Z,atB u R,c6];rfl
 ·obtain⟨v,R,rfl⟩:=rB (hY a_ (hY a_ hs))
  refine eb (mu:=mu) ?_
  simp only[cC,<-eM Z,adM u R,c6];rfl
 ·rename_i x i
  split at hs
  ·rename_i vs hx
   obtain⟨v,R,rfl⟩:=oM hs
   refine eb (mu:=mu) ?_
   simp only[cC,<-eM Z,hx,X.I,Li,X.r9,R,Option.map_some,c6];rfl
  ·cases hs
 ·cases hs
  refine eb (mu:=mu) ?_
  simp only[cC,<-EW Z,X.I];rfl
 ·obtain⟨v,R,rfl⟩:=oM (hY a_ hs)
  refine eb (mu:=mu) ?_
  simp only[cC,<-K6 Z,adk R,c6];rfl
 ·obtain⟨p,R,rfl⟩:=Option.map_eq_some_iff.1 (e6 (hY a_ hs))
  obtain⟨v,d⟩:=p
  refine eb (mu:=mu) ?_
  simp only[cC,<-K6 Z,adj a_ R,lq]
 ·obtain⟨p,R,rfl⟩:=T.je _ (hY a_ hs)
  obtain⟨v,d⟩:=p
  refine eb (mu:=mu) ?_
  simp only[cC,<-eM Z,ah7 a_ u R,lq]
 ·rename_i b args gH
  have hL:=EW (ρ:=ρ) Z args.toList
  split at hs
  ·rename_i ty _ x _ A E
   obtain⟨v,R,rfl⟩:=rB (hY a_ hs)
   rw[E]at hL
   refine eb (mu:=mu) ?_
   simp only[cC,A,<-hL,X.af,mM,ahK u R,c6];rfl
  ·rename_i x xs E
   obtain⟨v,R,rfl⟩:=oM hs
   rw[E]at hL
   refine eb (mu:=mu) ?_
   simp only[cC,<-hL,X.af,mM,We R,c6];rfl
  ·rename_i x xs E
   obtain⟨v,R,rfl⟩:=oM hs
   rw[E]at hL
   refine eb (mu:=mu) ?_
   simp only[cC,<-hL,X.af,mM,Wi R,c6];rfl
  ·rename_i ty xt s x A E
   obtain⟨p,R,rfl⟩:=T.je _ (hY a_ (hY a_ hs))
   rw[E]at hL
   refine eb (mu:=mu) ?_
   simp only[cC,A,<-hL,X.af,mM,acK a_ u R,lq]
  ·rename_i ty xt s x A E
   obtain⟨p,R,rfl⟩:=Option.map_eq_some_iff.1 (e6 (hY a_ hs))
   rw[E]at hL
   refine eb (mu:=mu) ?_
   simp only[cC,A,<-hL,X.af,mM,adN R,lq]
  ·obtain⟨v,R,rfl⟩:=oM hs
   have hb:=adO (ρ:=ρ) R
   rw[hL]at hb
   refine eb (mu:=mu) ?_
   simp only[cC]
   exact ado R hb
 ·rename_i x args gH
  split at hs
  ·rename_i f xs ys hx
   cases hs
   simp only[XR.Za,cC,<-eM Z,hx,X.I,Ek,<-EW Z,X.gq]
  ·cases hs
 ·cases hs
end Go.Proofs.Xw
