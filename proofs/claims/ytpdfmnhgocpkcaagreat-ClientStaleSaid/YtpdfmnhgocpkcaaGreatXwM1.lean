/- Parts of the logic that the proof runs in, one behind the other. -/
import Derived.Test.YtpdfmnhgocpkcaaGreatTM1
namespace Go.Proofs.Xw
open Go Go.Proofs.Aw
abbrev NA:={v:AV // Aw.b8 (fun _=>false) v=true/\v.one=true}
def kz:Nat->Nat->Nat->NA:=fun _ _ _=>⟨.sc (.bool false),rfl,rfl⟩
structure aa where
 i:Nat->Int
 b:Nat->Bool
 s:Nat->ByteArray
 len:Nat->Nat
 ci:Nat->Nat->Nat->Int
 cb:Nat->Nat->Nat->Bool
 cs:Nat->Nat->Nat->ByteArray
 ct:Nat->Nat->Nat->NA
inductive a7 where
 | add | sub | mul | quo | rem | and | or | xor | andNot | shl | shr | max | min | conv | cV | fN | nk
 deriving DecidableEq,Inhabited
def a7.I:a7->IntKind->Int->Int->Int
 | .add,k,a,b=>k.wrap (a+b)
 | .sub,k,a,b=>k.wrap (a-b)
 | .mul,k,a,b=>k.wrap (a*b)
 | .quo,k,a,b=>k.wrap (a.tdiv b)
 | .rem,_,a,b=>a.tmod b
 | .and,k,a,b=>bits .and k a b
 | .or,k,a,b=>bits .or k a b
 | .xor,k,a,b=>bits .xor k a b
 | .andNot,k,a,b=>bits .andNot k a b
 | .shl,k,a,b=>k.wrap (a*2 ^ (Min.min b.toNat k.bits))
 | .shr,k,a,b=>a.fdiv (2 ^ (Min.min b.toNat k.bits))
 | .max,_,a,b=>Max.max a b
 | .min,_,a,b=>Min.min a b
 | .conv,k,a,_=>k.wrap a
 | .cV,_,a,b=>a+b
 | .fN,_,a,b=>a-b
 | .nk,_,a,b=>a*b
mutual
inductive U where
 | lit (n:Int) | var (i:Nat) | cl (l k:Nat) (j:U) | len (l:Nat) | ch (t:TE) | fC (t:TE) (j:U)
 | op (o:a7) (k:IntKind) (a b:U) | ite (c:BE) (a b:U) | uf (k j:Nat) (a:AL)
inductive AL where
 | nil | i (e:U) (r:AL) | b (e:BE) (r:AL) | s (e:TE) (r:AL)
inductive BE where
 | lit (b:Bool) | var (i:Nat) | cl (l k:Nat) (j:U) | lt (a b:U) | eq (a b:U) | seq (a b:TE) | slt (a b:TE)
 | not (a:BE) | and (a b:BE) | or (a b:BE) | ite (c a b:BE)
inductive TE where
 | lit (s:ByteArray) | var (i:Nat) | cl (l k:Nat) (j:U) | sub (t:TE) (a b:U) | ite (c:BE) (a b:TE)
end
instance:Inhabited U:=⟨.lit 0⟩
instance:Inhabited BE:=⟨.lit false⟩
instance:Inhabited TE:=⟨.var 0⟩
mutual
noncomputable def U.I (ρ:aa):U->Int
 | .lit n=>n
 | .var i=>ρ.i i
 | .cl l k j=>ρ.ci l k (j.I ρ).toNat
 | .len l=>ρ.len l
 | .ch t=>(t.I ρ).size
 | .fC t j=>(((t.I ρ)[(j.I ρ).toNat]?).getD 0).toNat
 | .op o k a b=>o.I k (a.I ρ) (b.I ρ)
 | .ite c a b=>if c.I ρ=true then a.I ρ else b.I ρ
 | .uf k j a=>UF k (a.I ρ) j
noncomputable def AL.I (ρ:aa):AL->List Value
 | .nil=>[]
 | .i e r => .int .i64 (e.I ρ)::r.I ρ
 | .b e r => .bool (e.I ρ)::r.I ρ
 | .s e r => .string (e.I ρ)::r.I ρ
noncomputable def BE.I (ρ:aa):BE->Bool
 | .lit b=>b
 | .var i=>ρ.b i
 | .cl l k j=>ρ.cb l k (j.I ρ).toNat
 | .lt a b=>decide (a.I ρ<b.I ρ)
 | .eq a b=>a.I ρ==b.I ρ
 | .seq a b=>(a.I ρ).toList==(b.I ρ).toList
 | .slt a b=>Op.bytesLess (a.I ρ).toList (b.I ρ).toList
 | .not a => !a.I ρ
 | .and a b=>a.I ρ&&b.I ρ
 | .or a b=>a.I ρ||b.I ρ
 | .ite c a b=>if c.I ρ=true then a.I ρ else b.I ρ
noncomputable def TE.I (ρ:aa):TE->ByteArray
 | .lit s=>s
 | .var i=>ρ.s i
 | .cl l k j=>ρ.cs l k (j.I ρ).toNat
 | .sub t a b=>(t.I ρ).extract (a.I ρ).toNat (b.I ρ).toNat
 | .ite c a b=>if c.I ρ=true then a.I ρ else b.I ρ
end
def VJ:IntKind->Nat
 | .i8=>0 | .i16=>1 | .i32=>2 | .i64=>3 | .u8=>4 | .u16=>5 | .u32=>6 | .u64=>7
def ml (a b:IntKind):Bool:=Nat.beq (VJ a) (VJ b)
theorem oj {a b:IntKind} (h:ml a b=true):a=b:=by cases a<;>cases b<;>first | rfl | exact absurd h (by decide)
def a7.code:a7->Nat
 | .add=>0 | .sub=>1 | .mul=>2 | .quo=>3 | .rem=>4 | .and=>5 | .or=>6 | .xor=>7 | .andNot=>8 | .shl=>9 | .shr=>10 | .max=>11 | .min=>12 | .conv=>13 | .cV=>14 | .fN=>15 | .nk=>16
def a7.beq (a b:a7):Bool:=Nat.beq a.code b.code
theorem a7.beq_eq {a b:a7} (h:a.beq b=true):a=b:=by cases a<;>cases b<;>first | rfl | exact absurd h (by decide)
def JR (a b:ByteArray):Bool:=a.data.toList==b.data.toList
theorem adp {a b:ByteArray} (h:JR a b=true):a=b:=by
 obtain⟨⟨a⟩⟩:=a
 obtain⟨⟨b⟩⟩:=b
 simp only[JR,beq_iff_eq]at h
 rw[h]
mutual
def U.beq:U->U->Bool
 | .lit a,.lit b=>a==b
 | .var a,.var b=>Nat.beq a b
 | .cl l k j,.cl l' k' j'=>Nat.beq l l'&&(Nat.beq k k'&&j.beq j')
 | .len a,.len b=>Nat.beq a b
 | .ch a,.ch b=>a.beq b
 | .fC t j,.fC t' j'=>t.beq t'&&j.beq j'
 | .op o k a b,.op o' k' bz dl=>o.beq o'&&(ml k k'&&(a.beq bz&&b.beq dl))
 | .ite c a b,.ite dw bz dl=>c.beq dw&&(a.beq bz&&b.beq dl)
 | .uf k j a,.uf k' j' bz=>Nat.beq k k'&&(Nat.beq j j'&&a.beq bz)
 | _,_=>false
def AL.beq:AL->AL->Bool
 | .nil,.nil=>true
 | .i e r,.i e' r'=>e.beq e'&&r.beq r'
 | .b e r,.b e' r'=>e.beq e'&&r.beq r'
 | .s e r,.s e' r'=>e.beq e'&&r.beq r'
 | _,_=>false
def BE.beq:BE->BE->Bool
 | .lit a,.lit b=>a==b
 | .var a,.var b=>Nat.beq a b
 | .cl l k j,.cl l' k' j'=>Nat.beq l l'&&(Nat.beq k k'&&j.beq j')
 | .lt a b,.lt bz dl=>a.beq bz&&b.beq dl
 | .eq a b,.eq bz dl=>a.beq bz&&b.beq dl
 | .seq a b,.seq bz dl=>a.beq bz&&b.beq dl
 | .slt a b,.slt bz dl=>a.beq bz&&b.beq dl
 | .not a,.not bz=>a.beq bz
 | .and a b,.and bz dl=>a.beq bz&&b.beq dl
 | .or a b,.or bz dl=>a.beq bz&&b.beq dl
 | .ite c a b,.ite dw bz dl=>c.beq dw&&(a.beq bz&&b.beq dl)
 | _,_=>false
def TE.beq:TE->TE->Bool
 | .lit a,.lit b=>JR a b
 | .var a,.var b=>Nat.beq a b
 | .cl l k j,.cl l' k' j'=>Nat.beq l l'&&(Nat.beq k k'&&j.beq j')
 | .sub t a b,.sub t' bz dl=>t.beq t'&&(a.beq bz&&b.beq dl)
 | .ite c a b,.ite dw bz dl=>c.beq dw&&(a.beq bz&&b.beq dl)
 | _,_=>false
end
mutual
theorem U.beq_eq:∀(a b:U),a.beq b=true->a=b
 | .lit a,b,h=>by cases b<;>simp[U.beq]at h ⊢;exact h
 | .var a,b,h=>by cases b<;>simp[U.beq]at h ⊢;exact h
 | .cl l k j,b,h=>by
  cases b<;>simp[U.beq]at h ⊢
  exact⟨h.1,h.2.1,U.beq_eq _ _ h.2.2⟩
 | .len a,b,h=>by cases b<;>simp[U.beq]at h ⊢;exact h
 | .ch a,b,h=>by
  cases b<;>simp[U.beq]at h ⊢
  exact TE.beq_eq _ _ h
 | .fC t j,b,h=>by
  cases b<;>simp[U.beq]at h ⊢
  exact⟨TE.beq_eq _ _ h.1,U.beq_eq _ _ h.2⟩
 | .op o k x y,b,h=>by
  cases b<;>simp[U.beq]at h ⊢
  exact⟨a7.beq_eq h.1,oj h.2.1,U.beq_eq _ _ h.2.2.1,U.beq_eq _ _ h.2.2.2⟩
 | .ite c x y,b,h=>by
  cases b<;>simp[U.beq]at h ⊢
  exact⟨BE.beq_eq _ _ h.1,U.beq_eq _ _ h.2.1,U.beq_eq _ _ h.2.2⟩
 | .uf k j x,b,h=>by
  cases b<;>simp[U.beq]at h ⊢
  exact⟨h.1,h.2.1,AL.beq_eq _ _ h.2.2⟩
theorem AL.beq_eq:∀(a b:AL),a.beq b=true->a=b
 | .nil,b,h=>by cases b<;>simp[AL.beq]at h ⊢
 | .i x y,b,h=>by
  cases b<;>simp[AL.beq]at h ⊢
  exact⟨U.beq_eq _ _ h.1,AL.beq_eq _ _ h.2⟩
 | .b x y,b,h=>by
  cases b<;>simp[AL.beq]at h ⊢
  exact⟨BE.beq_eq _ _ h.1,AL.beq_eq _ _ h.2⟩
 | .s x y,b,h=>by
  cases b<;>simp[AL.beq]at h ⊢
  exact⟨TE.beq_eq _ _ h.1,AL.beq_eq _ _ h.2⟩
theorem BE.beq_eq:∀(a b:BE),a.beq b=true->a=b
 | .lit a,b,h=>by cases b<;>simp[BE.beq]at h ⊢;exact h
 | .var a,b,h=>by cases b<;>simp[BE.beq]at h ⊢;exact h
 | .cl l k j,b,h=>by
  cases b<;>simp[BE.beq]at h ⊢
  exact⟨h.1,h.2.1,U.beq_eq _ _ h.2.2⟩
 | .lt x y,b,h=>by
  cases b<;>simp[BE.beq]at h ⊢
  exact⟨U.beq_eq _ _ h.1,U.beq_eq _ _ h.2⟩
 | .eq x y,b,h=>by
  cases b<;>simp[BE.beq]at h ⊢
  exact⟨U.beq_eq _ _ h.1,U.beq_eq _ _ h.2⟩
 | .seq x y,b,h=>by
  cases b<;>simp[BE.beq]at h ⊢
  exact⟨TE.beq_eq _ _ h.1,TE.beq_eq _ _ h.2⟩
 | .slt x y,b,h=>by
  cases b<;>simp[BE.beq]at h ⊢
  exact⟨TE.beq_eq _ _ h.1,TE.beq_eq _ _ h.2⟩
 | .not x,b,h=>by
  cases b<;>simp[BE.beq]at h ⊢
  exact BE.beq_eq _ _ h
 | .and x y,b,h=>by
  cases b<;>simp[BE.beq]at h ⊢
  exact⟨BE.beq_eq _ _ h.1,BE.beq_eq _ _ h.2⟩
 | .or x y,b,h=>by
  cases b<;>simp[BE.beq]at h ⊢
  exact⟨BE.beq_eq _ _ h.1,BE.beq_eq _ _ h.2⟩
 | .ite c x y,b,h=>by
  cases b<;>simp[BE.beq]at h ⊢
  exact⟨BE.beq_eq _ _ h.1,BE.beq_eq _ _ h.2.1,BE.beq_eq _ _ h.2.2⟩
theorem TE.beq_eq:∀(a b:TE),a.beq b=true->a=b
 | .lit a,b,h=>by
  cases b<;>simp[TE.beq]at h ⊢
  exact adp h
 | .var a,b,h=>by cases b<;>simp[TE.beq]at h ⊢;exact h
 | .cl l k j,b,h=>by
  cases b<;>simp[TE.beq]at h ⊢
  exact⟨h.1,h.2.1,U.beq_eq _ _ h.2.2⟩
 | .sub t x y,b,h=>by
  cases b<;>simp[TE.beq]at h ⊢
  exact⟨TE.beq_eq _ _ h.1,U.beq_eq _ _ h.2.1,U.beq_eq _ _ h.2.2⟩
 | .ite c x y,b,h=>by
  cases b<;>simp[TE.beq]at h ⊢
  exact⟨BE.beq_eq _ _ h.1,TE.beq_eq _ _ h.2.1,TE.beq_eq _ _ h.2.2⟩
end
def mkNot:BE->BE
 | .lit b => .lit (!b)
 | .not a=>a
 | a => .not a
theorem eu (ρ:aa) (a:BE):(mkNot a).I ρ = !a.I ρ:=by
 unfold mkNot;split<;>simp[BE.I]
def BE.r7:BE->BE->Bool
 | .not a,b=>a.beq b
 | a,.not b=>a.beq b
 | _,_=>false
theorem BE.SA {ρ:aa} {a b:BE} (h:a.r7 b=true):(a.I ρ||b.I ρ)=true:=by
 unfold BE.r7 at h
 split at h
 ·rw[BE.beq_eq _ _ h];simp[BE.I]
 ·rw[BE.beq_eq _ _ h];simp[BE.I]
 ·cases h
theorem BE.SB {ρ:aa} {a b:BE} (h:a.r7 b=true):(a.I ρ&&b.I ρ)=false:=by
 unfold BE.r7 at h
 split at h
 ·rw[BE.beq_eq _ _ h];simp[BE.I]
 ·rw[BE.beq_eq _ _ h];simp[BE.I]
 ·cases h
def mkAnd (a b:BE):BE :=
 match a,b with
 | .lit true,b=>b
 | .lit false,_ => .lit false
 | a,.lit true=>a
 | _,.lit false => .lit false
 | a,.or c d=>if a.r7 c=true then .and a d else if a.beq c=true then a else .and a (.or c d)
 | a,b=>if a.beq b=true then a else if a.r7 b=true then .lit false else .and a b
theorem fL (ρ:aa) (a b:BE):(mkAnd a b).I ρ=(a.I ρ&&b.I ρ):=by
 unfold mkAnd
 split
 ·simp[BE.I]
 ·simp[BE.I]
 ·simp[BE.I]
 ·simp[BE.I]
 ·split
  ·rename_i h
   have:=BE.SB (ρ:=ρ) h
   simp only[BE.I]
   cases ha:BE.I ρ a
   ·simp
   ·rw[ha,Bool.true_and]at this;simp[this]
  ·split
   ·rename_i h;rw[BE.beq_eq _ _ h];simp only[BE.I];cases BE.I ρ _<;>simp
   ·simp[BE.I]
 ·split
  ·rename_i h;rw[BE.beq_eq _ _ h];simp
  ·split
   ·rename_i h;rw[BE.SB h];rfl
   ·simp[BE.I]
def mkOr (a b:BE):BE :=
 match a,b with
 | .lit false,b=>b
 | .lit true,_ => .lit true
 | a,.lit false=>a
 | _,.lit true => .lit true
 | a,.and c d=>if a.r7 c=true then .or a d else if a.beq c=true then a else .or a (.and c d)
 | a,b=>if a.beq b=true then a else if a.r7 b=true then .lit true else .or a b
theorem ow (ρ:aa) (a b:BE):(mkOr a b).I ρ=(a.I ρ||b.I ρ):=by
 unfold mkOr
 split
 ·simp[BE.I]
 ·simp[BE.I]
 ·simp[BE.I]
 ·simp[BE.I]
 ·split
  ·rename_i h
   have:=BE.SA (ρ:=ρ) h
   simp only[BE.I]
   cases ha:BE.I ρ a
   ·rw[ha,Bool.false_or]at this;simp[this]
   ·simp
  ·split
   ·rename_i h;rw[BE.beq_eq _ _ h];simp only[BE.I];cases BE.I ρ _<;>simp
   ·simp[BE.I]
 ·split
  ·rename_i h;rw[BE.beq_eq _ _ h];simp
  ·split
   ·rename_i h;rw[BE.SA h];rfl
   ·simp[BE.I]
def im (c a b:BE):BE :=
 match c with
 | .lit true=>a
 | .lit false=>b
 | c=>if a.beq b=true then a else
  match a,b with
  | .lit true,.lit false=>c
  | .lit false,.lit true=>mkNot c
  | .lit true,b=>mkOr c b
  | .lit false,b=>mkAnd (mkNot c) b
  | a,.lit true=>mkOr (mkNot c) a
  | a,.lit false=>mkAnd c a
  | a,b => .ite c a b
theorem kx (ρ:aa) (c a b:BE):(im c a b).I ρ=if c.I ρ=true then a.I ρ else b.I ρ:=by
 unfold im
 split
 ·simp[BE.I]
 ·simp[BE.I]
 ·split
  ·rename_i h;rw[BE.beq_eq _ _ h];simp
  ·split<;>simp only[eu,ow,fL,BE.I]<;>cases BE.I ρ c<;>simp
def lr (c:BE) (a b:U):U :=
 match c with
 | .lit true=>a
 | .lit false=>b
 | c=>if a.beq b=true then a else .ite c a b
theorem s6 (ρ:aa) (c:BE) (a b:U):(lr c a b).I ρ=if c.I ρ=true then a.I ρ else b.I ρ:=by
 unfold lr
 split
 ·simp[BE.I]
 ·simp[BE.I]
 ·split
  ·rename_i h;rw[U.beq_eq _ _ h];simp
  ·simp[U.I]
def GC (c:BE) (a b:TE):TE :=
 match c with
 | .lit true=>a
 | .lit false=>b
 | c=>if a.beq b=true then a else .ite c a b
theorem Wj (ρ:aa) (c:BE) (a b:TE):(GC c a b).I ρ=if c.I ρ=true then a.I ρ else b.I ρ:=by
 unfold GC
 split
 ·simp[BE.I]
 ·simp[BE.I]
 ·split
  ·rename_i h;rw[TE.beq_eq _ _ h];simp
  ·simp[TE.I]
def mkEq:U->U->BE
 | .lit m,.lit n => .lit (m==n)
 | .lit m,b => .eq b (.lit m)
 | .ite c a b,.lit n=>im c (mkEq a (.lit n)) (mkEq b (.lit n))
 | a,b=>if a.beq b=true then .lit true else .eq a b
theorem eQ (ρ:aa):∀(a b:U),(mkEq a b).I ρ=(a.I ρ==b.I ρ):=by
 intro a b
 fun_induction mkEq a b with
 | case1=>simp[BE.I,U.I]
 | case2 m b h=>simp only[BE.I,U.I,BEq.comm]
 | case3 c a b n d9 el=>rw[kx,d9,el];simp only[U.I];split<;>rfl
 | case4=>rename_i h;rw[U.beq_eq _ _ h];simp[BE.I]
 | case5 a b=>simp[BE.I]
def bT (n:Int):U->BE
 | .lit m => .lit (decide (m<n))
 | .ite c a b=>im c (bT n a) (bT n b)
 | a => .lt a (.lit n)
theorem NN (ρ:aa) (n:Int):∀a:U,(bT n a).I ρ=decide (a.I ρ<n)
 | .lit m=>by simp only[bT,BE.I,U.I];exact decide_eq_decide.2 Iff.rfl
 | .ite c a b=>by simp only[bT,kx,NN ρ n a,NN ρ n b,U.I];split<;>rfl
 | .var i=>by simp only[bT,BE.I];exact decide_eq_decide.2 Iff.rfl
 | .cl l k j=>by simp only[bT,BE.I];exact decide_eq_decide.2 Iff.rfl
 | .len l=>by simp only[bT,BE.I];exact decide_eq_decide.2 Iff.rfl
 | .ch t=>by simp only[bT,BE.I];exact decide_eq_decide.2 Iff.rfl
 | .fC t j=>by simp only[bT,BE.I];exact decide_eq_decide.2 Iff.rfl
 | .op o k a b=>by simp only[bT,BE.I];exact decide_eq_decide.2 Iff.rfl
 | .uf _ _ _=>by simp only[bT,BE.I];exact decide_eq_decide.2 Iff.rfl
def mq (n:Int):U->BE
 | .lit m => .lit (decide (n<m))
 | .ite c a b=>im c (mq n a) (mq n b)
 | a => .lt (.lit n) a
theorem NO (ρ:aa) (n:Int):∀a:U,(mq n a).I ρ=decide (n<a.I ρ)
 | .lit m=>by simp only[mq,BE.I,U.I];exact decide_eq_decide.2 Iff.rfl
 | .ite c a b=>by simp only[mq,kx,NO ρ n a,NO ρ n b,U.I];split<;>rfl
 | .var i=>by simp only[mq,BE.I];exact decide_eq_decide.2 Iff.rfl
 | .cl l k j=>by simp only[mq,BE.I];exact decide_eq_decide.2 Iff.rfl
 | .len l=>by simp only[mq,BE.I];exact decide_eq_decide.2 Iff.rfl
 | .ch t=>by simp only[mq,BE.I];exact decide_eq_decide.2 Iff.rfl
 | .fC t j=>by simp only[mq,BE.I];exact decide_eq_decide.2 Iff.rfl
 | .op o k a b=>by simp only[mq,BE.I];exact decide_eq_decide.2 Iff.rfl
 | .uf _ _ _=>by simp only[mq,BE.I];exact decide_eq_decide.2 Iff.rfl
def base:U->U×Int
 | .op .cV _ a (.lit c)=>(a,c)
 | .op .cV _ (.lit c) a=>(a,c)
 | .op .fN _ a (.lit c)=>(a,-c)
 | a=>(a,0)
theorem mL (ρ:aa) (a:U):a.I ρ=(base a).1.I ρ+(base a).2:=by
 unfold base
 split<;>simp only[U.I,a7.I]<;>omega
def mkLt:U->U->BE
 | a,.lit n=>bT n a
 | .lit n,b=>mq n b
 | a,b=>if(base a).1.beq (base b).1=true then .lit (decide ((base a).2<(base b).2))else .lt a b
theorem gW (ρ:aa) (a b:U):(mkLt a b).I ρ=decide (a.I ρ<b.I ρ):=by
 unfold mkLt
 split
 ·rw[NN];exact decide_eq_decide.2 Iff.rfl
 ·rw[NO];exact decide_eq_decide.2 Iff.rfl
 ·split
  ·rename_i h
   rw[mL ρ a,mL ρ b,U.beq_eq _ _ h]
   simp only[BE.I]
   exact decide_eq_decide.2 (by omega)
  ·simp only[BE.I]
def mkSeq:TE->TE->BE
 | .lit m,.lit n => .lit (m.toList==n.toList)
 | a,b=>if a.beq b=true then .lit true else .seq a b
theorem N4 (ρ:aa) (a b:TE):(mkSeq a b).I ρ=((a.I ρ).toList==(b.I ρ).toList):=by
 unfold mkSeq
 split
 ·simp[BE.I,TE.I]
 ·split
  ·rename_i h;rw[TE.beq_eq _ _ h];simp[BE.I]
  ·simp[BE.I]
def hQ (o:a7) (k:IntKind) (a b:U):U :=
 match a,b with
 | .lit m,.lit n => .lit (o.I k m n)
 | a,b => .op o k a b
theorem ov (ρ:aa) (o:a7) (k:IntKind) (a b:U):(hQ o k a b).I ρ=o.I k (a.I ρ) (b.I ρ):=by
 unfold hQ;split<;>simp[U.I]
def mkMul:U->U->U
 | .lit m,.lit n => .lit (m*n)
 | a,.lit n=>if n==0 then .lit 0 else if n==1 then a else .op .nk .i64 (.lit n) a
 | .lit n,b=>if n==0 then .lit 0 else if n==1 then b else .op .nk .i64 (.lit n) b
 | a,b => .op .nk .i64 a b
theorem yD (ρ:aa) (a b:U):(mkMul a b).I ρ=a.I ρ*b.I ρ:=by
 unfold mkMul
 split
 ·simp[U.I]
 ·split
  ·rename_i h;simp only[beq_iff_eq]at h;subst h;simp[U.I]
  ·split
   ·rename_i h;simp only[beq_iff_eq]at h;subst h;simp[U.I]
   ·simp only[U.I,a7.I];exact Int.mul_comm _ _
 ·split
  ·rename_i h;simp only[beq_iff_eq]at h;subst h;simp[U.I]
  ·split
   ·rename_i h;simp only[beq_iff_eq]at h;subst h;simp[U.I]
   ·simp only[U.I,a7.I]
 ·simp[U.I,a7.I]
def s7:TE->U
 | .lit s => .lit s.size
 | t => .ch t
theorem yF (ρ:aa) (t:TE):(s7 t).I ρ=(t.I ρ).size:=by
 unfold s7;split<;>simp[U.I,TE.I]
def mkIff (a b:BE):BE:=if a.beq b=true then .lit true else im a b (mkNot b)
theorem GB (ρ:aa) (a b:BE):(mkIff a b).I ρ=(a.I ρ==b.I ρ):=by
 unfold mkIff
 split
 ·rename_i h;rw[BE.beq_eq _ _ h];simp[BE.I]
 ·rw[kx,eu];cases a.I ρ<;>cases b.I ρ<;>rfl
end Go.Proofs.Xw
namespace Go.Proofs.Xw
open Go Go.Proofs.Aw
abbrev J:=List (BE×Bool)
def J.ok (ρ:aa) (B:J):Prop:=∀p∈B,p.1.I ρ=p.2
theorem J.bt (ρ:aa):J.ok ρ []:=fun _ h=>by cases h
theorem J.av {ρ:aa} {c:BE} {v:Bool} {B:J} (h:c.I ρ=v) (u:J.ok ρ B):J.ok ρ ((c,v)::B):=fun p hp=>by
 rcases List.mem_cons.1 hp with rfl | hp
 ·exact h
 ·exact u p hp
theorem J.vU {ρ:aa} {p:BE×Bool} {B:J} (h:J.ok ρ (p::B)):p.1.I ρ=p.2/\J.ok ρ B:=⟨h p List.mem_cons_self,fun q hq=>h q (List.mem_cons_of_mem _ hq)⟩
structure Iv where
 lo:Option Int
 hi:Option Int
def Iv.ok (v:Iv) (x:Int):Prop:=(∀l,v.lo=some l->l<=x)/\(∀h,v.hi=some h->x<=h)
def Hb:Option Int->Option Int->Option Int
 | some a,some b=>some (if a<b then b else a)
 | some a,none=>some a
 | none,b=>b
def yP:Option Int->Option Int->Option Int
 | some a,some b=>some (if b<a then b else a)
 | some a,none=>some a
 | none,b=>b
def Iv.meet (a b:Iv):Iv:=⟨Hb a.lo b.lo,yP a.hi b.hi⟩
theorem Iv.NS {a b:Iv} {x:Int} (ha:a.ok x) (hb:b.ok x):(a.meet b).ok x:=by
 obtain⟨di,t5⟩:=a
 obtain⟨w3,ac5⟩:=b
 refine⟨fun l M => ?_,fun h W => ?_⟩
 ·cases di<;>cases w3<;>simp only[Iv.meet,Hb,Option.some.injEq,reduceCtorEq]at M
  ·exact hb.1 _ (by simp[M])
  ·exact ha.1 _ (by simp[M])
  ·subst M;split
   ·exact hb.1 _ rfl
   ·exact ha.1 _ rfl
 ·cases t5<;>cases ac5<;>simp only[Iv.meet,yP,Option.some.injEq,reduceCtorEq]at W
  ·exact hb.2 _ (by simp[W])
  ·exact ha.2 _ (by simp[W])
  ·subst W;split
   ·exact hb.2 _ rfl
   ·exact ha.2 _ rfl
def M6 (e:U):BE×Bool->Iv
 | (.lt a (.lit n),true)=>if a.beq e=true then⟨none,some (n-1)⟩else⟨none,none⟩
 | (.lt a (.lit n),false)=>if a.beq e=true then⟨some n,none⟩else⟨none,none⟩
 | (.lt (.lit n) a,true)=>if a.beq e=true then⟨some (n+1),none⟩else⟨none,none⟩
 | (.lt (.lit n) a,false)=>if a.beq e=true then⟨none,some n⟩else⟨none,none⟩
 | (.eq a (.lit n),true)=>if a.beq e=true then⟨some n,some n⟩else⟨none,none⟩
 | _=>⟨none,none⟩
theorem Iv.lz (x:Int):Iv.ok ⟨none,none⟩ x:=⟨fun _ h=>(by cases h),fun _ h=>(by cases h)⟩
theorem ag0 {ρ:aa} {e:U} {p:BE×Bool} (h:p.1.I ρ=p.2):(M6 e p).ok (e.I ρ):=by
 unfold M6
 split
 ·split
  ·rename_i hb
   rw[<-U.beq_eq _ _ hb]
   have h:=of_decide_eq_true h
   simp only[U.I]at h
   exact⟨fun _ W=>(by cases W),fun _ W=>(by cases W;omega)⟩
  ·exact Iv.lz _
 ·split
  ·rename_i hb
   rw[<-U.beq_eq _ _ hb]
   have h:=of_decide_eq_false h
   simp only[U.I]at h
   exact⟨fun _ W=>(by cases W;omega),fun _ W=>(by cases W)⟩
  ·exact Iv.lz _
 ·split
  ·rename_i hb
   rw[<-U.beq_eq _ _ hb]
   have h:=of_decide_eq_true h
   simp only[U.I]at h
   exact⟨fun _ W=>(by cases W;omega),fun _ W=>(by cases W)⟩
  ·exact Iv.lz _
 ·split
  ·rename_i hb
   rw[<-U.beq_eq _ _ hb]
   have h:=of_decide_eq_false h
   simp only[U.I]at h
   exact⟨fun _ W=>(by cases W),fun _ W=>(by cases W;omega)⟩
  ·exact Iv.lz _
 ·split
  ·rename_i hb
   rw[<-U.beq_eq _ _ hb]
   simp only[BE.I,U.I,beq_iff_eq]at h
   exact⟨fun _ W=>(by cases W;omega),fun _ W=>(by cases W;omega)⟩
  ·exact Iv.lz _
 ·exact Iv.lz _
def M5:U->Iv
 | .lit n=>⟨some n,some n⟩
 | .len _=>⟨some 0,none⟩
 | .ch _=>⟨some 0,none⟩
 | .fC _ _=>⟨some 0,some 255⟩
 | .uf k _ _=>⟨some (jf k).1,some (jf k).2⟩
 | _=>⟨none,none⟩
theorem agZ (ρ:aa) (e:U):(M5 e).ok (e.I ρ):=by
 unfold M5
 split
 ·exact⟨fun _ W=>(by cases W;simp[U.I]),fun _ W=>(by cases W;simp[U.I])⟩
 ·exact⟨fun _ W=>(by cases W;simp[U.I]),fun _ W=>(by cases W)⟩
 ·exact⟨fun _ W=>(by cases W;simp[U.I]),fun _ W=>(by cases W)⟩
 ·refine⟨fun _ W=>(by cases W;simp[U.I]),fun _ W => ?_⟩
  cases W
  simp only[U.I]
  have:=UInt8.toNat_lt ((((TE.I ρ ‹TE›)[(U.I ρ ‹U›).toNat]?).getD 0))
  omega
 ·exact⟨fun _ W=>(by cases W;exact(DZ _ _ _).1),fun _ W=>(by cases W;exact(DZ _ _ _).2)⟩
 ·exact Iv.lz _
def BM (e:U):J->Iv
 | []=>M5 e
 | p::B=>(M6 e p).meet (BM e B)
theorem pq {ρ:aa} {e:U}:∀{B:J},J.ok ρ B->(BM e B).ok (e.I ρ)
 | [],_=>agZ ρ e
 | _::_,h=>Iv.NS (ag0 (J.vU h).1) (pq (J.vU h).2)
def yf (a b:Iv):Option Bool :=
 match a.hi,b.lo with
 | some h,some l=>if h<l then some true else(match a.lo,b.hi with | some l',some h'=>if h'<=l' then some false else none | _,_=>none)
 | _,_=>match a.lo,b.hi with | some l',some h'=>if h'<=l' then some false else none | _,_=>none
theorem yg {a b:Iv} {x y:Int} {r:Bool} (ha:a.ok x) (hb:b.ok y) (h:yf a b=some r):decide (x<y)=r:=by
 unfold yf at h
 split at h
 ·rename_i W l A E
  have:=ha.2 _ A
  have:=hb.1 _ E
  split at h
  ·cases h;exact decide_eq_true (by omega)
  ·split at h
   ·rename_i h3 h4
    have:=ha.1 _ h3
    have:=hb.2 _ h4
    split at h
    ·cases h;exact decide_eq_false (by omega)
    ·cases h
   ·cases h
 ·split at h
  ·rename_i h3 h4
   have:=ha.1 _ h3
   have:=hb.2 _ h4
   split at h
   ·cases h;exact decide_eq_false (by omega)
   ·cases h
  ·cases h
def F1 (a b:Iv):Option Bool :=
 match yf a b,yf b a with
 | some true,_=>some false
 | _,some true=>some false
 | some false,some false=>some true
 | _,_=>none
theorem VD {a b:Iv} {x y:Int} {r:Bool} (ha:a.ok x) (hb:b.ok y) (h:F1 a b=some r):(x==y)=r:=by
 unfold F1 at h
 split at h
 ·rename_i A
  have:=yg ha hb A
  cases h;simp only[decide_eq_true_eq]at this
  exact beq_eq_false_iff_ne.2 (by omega)
 ·rename_i A _
  have:=yg hb ha A
  cases h;simp only[decide_eq_true_eq]at this
  exact beq_eq_false_iff_ne.2 (by omega)
 ·rename_i A E
  have:=yg ha hb A
  have:=yg hb ha E
  cases h;simp only[decide_eq_false_iff_not]at *
  exact beq_iff_eq.2 (by omega)
 ·cases h
def G2:Option Int->Option Int->Option Int
 | some a,some b=>some (a+b)
 | _,_=>none
theorem WY {a b:Option Int} {c:Int} (h:G2 a b=some c):∃x y,a=some x/\b=some y/\c=x+y:=by
 unfold G2 at h
 split at h
 ·cases h;exact⟨_,_,rfl,rfl,rfl⟩
 ·cases h
def BL (a b:Iv):Iv:=⟨G2 a.lo b.lo,G2 a.hi b.hi⟩
theorem F0 {a b:Iv} {x y:Int} (ha:a.ok x) (hb:b.ok y):(BL a b).ok (x+y):=by
 refine⟨fun l M => ?_,fun l M => ?_⟩
 ·obtain⟨p,q,hp,hq,rfl⟩:=WY M
  have:=ha.1 p hp
  have:=hb.1 q hq
  omega
 ·obtain⟨p,q,hp,hq,rfl⟩:=WY M
  have:=ha.2 p hp
  have:=hb.2 q hq
  omega
def Xn:Option Int->Option Int
 | some a=>some (-a)
 | none=>none
def M9 (a:Iv):Iv:=⟨Xn a.hi,Xn a.lo⟩
theorem VF {a:Iv} {x:Int} (ha:a.ok x):(M9 a).ok (-x):=by
 obtain⟨lo,hi⟩:=a
 refine⟨fun l M => ?_,fun l M => ?_⟩
 ·cases hi with
  | none=>cases M
  | some h=>cases M;have:=ha.2 h rfl;omega
 ·cases lo with
  | none=>cases M
  | some h=>cases M;have:=ha.1 h rfl;omega
def sS (a b:Int):Int:=if a<b then a else b
def imax (a b:Int):Int:=if a<b then b else a
def F3:Iv->Iv->Iv
 | ⟨some a,some b⟩,⟨some c,some d⟩=>⟨some (sS (sS (a*c) (a*d)) (sS (b*c) (b*d))),some (imax (imax (a*c) (a*d)) (imax (b*c) (b*d)))⟩
 | _,_=>⟨none,none⟩
theorem Og {x c d y:Int} (A:c<=y) (E:y<=d):sS (x*c) (x*d)<=x*y/\x*y<=imax (x*c) (x*d):=by
 unfold sS imax
 rcases Int.le_total 0 x with h | h
 ·have bm:=Int.mul_le_mul_of_nonneg_left A h
  have bl:=Int.mul_le_mul_of_nonneg_left E h
  constructor<;>split<;>omega
 ·have bm:=Int.mul_le_mul_of_nonpos_left h A
  have bl:=Int.mul_le_mul_of_nonpos_left h E
  constructor<;>split<;>omega
theorem VE {Y v:Iv} {x y:Int} (hu:Y.ok x) (R:v.ok y):(F3 Y v).ok (x*y):=by
 unfold F3
 split
 ·rename_i a b c d
  have bm:=hu.1 a rfl
  have bl:=hu.2 b rfl
  have c1:=R.1 c rfl
  have c2:=R.2 d rfl
  obtain⟨m1,m2⟩:=Og (x:=x) c1 c2
  obtain⟨p1,p2⟩:=Og (x:=c) bm bl
  obtain⟨q1,q2⟩:=Og (x:=d) bm bl
  rw[Int.mul_comm c x,Int.mul_comm c a,Int.mul_comm c b]at p1 p2
  rw[Int.mul_comm d x,Int.mul_comm d a,Int.mul_comm d b]at q1 q2
  refine⟨fun l M => ?_,fun l M => ?_⟩
  ·cases M
   revert m1 p1 q1
   unfold sS
   intro m1 p1 q1
   split at m1<;>split at p1<;>split at q1<;>(repeat' split)<;>omega
  ·cases M
   revert m2 p2 q2
   unfold imax
   intro m2 p2 q2
   split at m2<;>split at p2<;>split at q2<;>(repeat' split)<;>omega
 ·exact Iv.lz _
def M7:Iv->Iv->Iv
 | ⟨a,b⟩,⟨c,d⟩=>⟨match a,c with | some a,some c=>some (sS a c) | _,_=>none,match b,d with | some b,some d=>some (imax b d) | _,_=>none⟩
theorem ag1 {Y v:Iv} {x:Int} (h:Y.ok x\/v.ok x):(M7 Y v).ok x:=by
 obtain⟨a,b⟩:=Y
 obtain⟨c,d⟩:=v
 unfold M7
 refine⟨fun l M => ?_,fun l M => ?_⟩
 ·simp only at M
  split at M
  ·cases M
   unfold sS
   rcases h with h | h
   ·have:=h.1 _ rfl;split<;>omega
   ·have:=h.1 _ rfl;split<;>omega
  ·cases M
 ·simp only at M
  split at M
  ·cases M
   unfold imax
   rcases h with h | h
   ·have:=h.2 _ rfl;split<;>omega
   ·have:=h.2 _ rfl;split<;>omega
  ·cases M
def ye:IntKind->Iv->Iv
 | .i64,⟨some a,some b⟩=>if decide (-9223372036854775808<=a)&&decide (b<9223372036854775808)then⟨some a,some b⟩else⟨none,none⟩
 | .u64,⟨some a,some b⟩=>if decide (0<=a)&&decide (b<18446744073709551616)then⟨some a,some b⟩else⟨some 0,some 18446744073709551615⟩
 | .u64,_=>⟨some 0,some 18446744073709551615⟩
 | _,_=>⟨none,none⟩
theorem u64_in (x:Int) (h0:0<=x) (A:x<18446744073709551616):IntKind.u64.wrap x=x:=by
 have e:IntKind.u64.wrap x=x % 18446744073709551616:=by simp[IntKind.wrap,IntKind.bits,IntKind.signed]
 rw[e];omega
theorem Z' (x:Int):0<=IntKind.u64.wrap x/\IntKind.u64.wrap x<=18446744073709551615:=by
 have e:IntKind.u64.wrap x=x % 18446744073709551616:=by simp[IntKind.wrap,IntKind.bits,IntKind.signed]
 rw[e];omega
theorem F2 {k:IntKind} {v:Iv} {x:Int} (h:v.ok x):(ye k v).ok (k.wrap x):=by
 unfold ye
 split
 ·split
  ·rename_i H
   simp only[Bool.and_eq_true,decide_eq_true_eq]at H
   have A:=h.1 _ rfl
   have E:=h.2 _ rfl
   rw[IntWalk.i64_in x ⟨by omega,by omega⟩]
   exact h
  ·exact Iv.lz _
 ·split
  ·rename_i H
   simp only[Bool.and_eq_true,decide_eq_true_eq]at H
   have A:=h.1 _ rfl
   have E:=h.2 _ rfl
   rw[u64_in x (by omega) (by omega)]
   exact h
  ·have:=Z' x
   exact⟨fun l M=>by cases M;omega,fun l M=>by cases M;omega⟩
 ·have:=Z' x
  exact⟨fun l M=>by cases M;omega,fun l M=>by cases M;omega⟩
 ·exact Iv.lz _
def M8:IntKind->Iv->Iv
 | .i64,⟨some a,some b⟩=>if decide (0<=a)&&decide (b<9223372036854775808)then⟨some 0,some b⟩else⟨none,none⟩
 | .u64,⟨some a,some b⟩=>if decide (0<=a)&&decide (b<9223372036854775808)then⟨some 0,some b⟩else⟨none,none⟩
 | _,_=>⟨none,none⟩
theorem yx (k:IntKind) (u:k = .i64\/k = .u64) (x m:Int) (h0:0<=m) (A:m<9223372036854775808):0<=bits .and k x m/\bits .and k x m<=m:=by
 have key:∀a:BitVec 64,((a &&& BitVec.ofInt 64 m).toNat:Int)<=m:=fun a=>by
  have e:(BitVec.ofInt 64 m).toNat=m.toNat:=by
   rw[BitVec.toNat_ofInt]
   omega
  have:=Nat.and_le_right (n:=a.toNat) (m:=m.toNat)
  rw[BitVec.toNat_and,e]
  omega
 rcases u with rfl | rfl
 ·have e:bits .and .i64 x m=IntKind.i64.wrap ((BitVec.ofInt 64 x &&& BitVec.ofInt 64 m).toNat:Int):=rfl
  have:=key (BitVec.ofInt 64 x)
  rw[e,IntWalk.i64_in _ ⟨by omega,by omega⟩]
  exact⟨by omega,this⟩
 ·have e:bits .and .u64 x m=IntKind.u64.wrap ((BitVec.ofInt 64 x &&& BitVec.ofInt 64 m).toNat:Int):=rfl
  have:=key (BitVec.ofInt 64 x)
  rw[e,u64_in _ (by omega) (by omega)]
  exact⟨by omega,this⟩
theorem ag2 {k:IntKind} {v:Iv} {x m:Int} (h:v.ok m):(M8 k v).ok (bits .and k x m):=by
 unfold M8
 split
 ·split
  ·rename_i H
   simp only[Bool.and_eq_true,decide_eq_true_eq]at H
   have A:=h.1 _ rfl
   have E:=h.2 _ rfl
   have:=yx .i64 (.inl rfl) x m (by omega) (by omega)
   exact⟨fun l M=>by cases M;omega,fun l M=>by cases M;omega⟩
  ·exact Iv.lz _
 ·split
  ·rename_i H
   simp only[Bool.and_eq_true,decide_eq_true_eq]at H
   have A:=h.1 _ rfl
   have E:=h.2 _ rfl
   have:=yx .u64 (.inr rfl) x m (by omega) (by omega)
   exact⟨fun l M=>by cases M;omega,fun l M=>by cases M;omega⟩
  ·exact Iv.lz _
 ·exact Iv.lz _
def M_:a7->IntKind->Iv->Iv->Iv
 | .cV,_,a,b=>BL a b
 | .fN,_,a,b=>BL a (M9 b)
 | .nk,_,a,b=>F3 a b
 | .add,k,a,b=>ye k (BL a b)
 | .sub,k,a,b=>ye k (BL a (M9 b))
 | .mul,k,a,b=>ye k (F3 a b)
 | .conv,k,a,_=>ye k a
 | .and,k,_,b=>M8 k b
 | .max,_,a,b=>⟨Hb a.lo b.lo,none⟩
 | _,_,_,_=>⟨none,none⟩
theorem ag3 {o:a7} {k:IntKind} {Y v:Iv} {x y:Int} (hu:Y.ok x) (R:v.ok y):(M_ o k Y v).ok (o.I k x y):=by
 unfold M_
 split<;>simp only[a7.I]
 ·exact F0 hu R
 ·rw[Int.sub_eq_add_neg];exact F0 hu (VF R)
 ·exact VE hu R
 ·exact F2 (F0 hu R)
 ·rw[Int.sub_eq_add_neg];exact F2 (F0 hu (VF R))
 ·exact F2 (VE hu R)
 ·exact F2 hu
 ·exact ag2 R
 ·refine⟨fun l M => ?_,fun _ h=>by cases h⟩
  cases a3:Y.lo with
  | none =>
   cases od:v.lo with
   | none=>rw[a3,od]at M;cases M
   | some b=>rw[a3,od]at M;cases M;have:=R.1 _ od;omega
  | some a =>
   have:=hu.1 _ a3
   cases od:v.lo with
   | none=>rw[a3,od]at M;cases M;omega
   | some b =>
    have:=R.1 _ od
    rw[a3,od]at M
    simp only[Hb,Option.some.injEq]at M
    split at M<;>omega
 ·exact Iv.lz _
def fH (B:J):U->Iv
 | .op o k a b=>(BM (.op o k a b) B).meet (M_ o k (fH B a) (fH B b))
 | .ite c a b=>(BM (.ite c a b) B).meet (M7 (fH B a) (fH B b))
 | e=>BM e B
theorem gU {ρ:aa} {B:J} (u:J.ok ρ B):∀e:U,(fH B e).ok (e.I ρ)
 | .op o k a b=>by
  simp only[fH]
  refine Iv.NS (pq u) ?_
  simp only[U.I]
  exact ag3 (gU u a) (gU u b)
 | .ite c a b=>by
  simp only[fH]
  refine Iv.NS (pq u) (ag1 ?_)
  simp only[U.I]
  split
  ·exact .inl (gU u a)
  ·exact .inr (gU u b)
 | .lit _=>pq u
 | .var _=>pq u
 | .cl _ _ _=>pq u
 | .len _=>pq u
 | .ch _=>pq u
 | .fC _ _=>pq u
 | .uf _ _ _=>pq u
def EH (a b:U):BE×Bool->Option Int
 | (.lt x y,true)=>if(base x).1.beq a&&(base y).1.beq b then some ((base y).2-(base x).2-1)else none
 | (.lt x y,false)=>if(base y).1.beq a&&(base x).1.beq b then some ((base x).2-(base y).2)else none
 | _=>none
theorem ad1 {ρ:aa} {a b:U} {p:BE×Bool} {k:Int} (h:p.1.I ρ=p.2) (hd:EH a b p=some k):a.I ρ-b.I ρ<=k:=by
 unfold EH at hd
 split at hd
 ·rename_i x y
  split at hd
  ·rename_i H
   simp only[Bool.and_eq_true]at H
   cases hd
   simp only[BE.I]at h
   have h:=of_decide_eq_true h
   rw[mL ρ x,mL ρ y,U.beq_eq _ _ H.1,U.beq_eq _ _ H.2]at h
   omega
  ·cases hd
 ·rename_i x y
  split at hd
  ·rename_i H
   simp only[Bool.and_eq_true]at H
   cases hd
   simp only[BE.I]at h
   have h:=of_decide_eq_false h
   rw[mL ρ x,mL ρ y,U.beq_eq _ _ H.1,U.beq_eq _ _ H.2]at h
   omega
  ·cases hd
 ·cases hd
def uG (a b:U):J->Option Int
 | []=>none
 | p::B=>yP (EH a b p) (uG a b B)
theorem Al {ρ:aa} {a b:U}:∀{B:J} {k:Int},J.ok ρ B->uG a b B=some k->a.I ρ-b.I ρ<=k
 | [],_,_,h=>by cases h
 | p::B,k,u,h=>by
  have A:=J.vU u
  simp only[uG]at h
  cases e1:EH a b p with
  | none =>
   rw[e1]at h
   simp only[yP]at h
   exact Al A.2 h
  | some x =>
   have hx:=ad1 A.1 e1
   rw[e1]at h
   cases e2:uG a b B with
   | none=>rw[e2]at h;simp only[yP,Option.some.injEq]at h;omega
   | some y =>
    have hy:=Al A.2 e2
    rw[e2]at h
    simp only[yP,Option.some.injEq]at h
    split at h<;>omega
def xf (B:J) (a b:U):Option Bool :=
 match uG (base a).1 (base b).1 B with
 | some k=>if k<(base b).2-(base a).2 then some true else(match uG (base b).1 (base a).1 B with
  | some k=>if k<=(base a).2-(base b).2 then some false else none
  | none=>none)
 | none=>match uG (base b).1 (base a).1 B with
  | some k=>if k<=(base a).2-(base b).2 then some false else none
  | none=>none
theorem xg {ρ:aa} {B:J} (u:J.ok ρ B) {a b:U} {r:Bool} (h:xf B a b=some r):(BE.lt a b).I ρ=r:=by
 simp only[BE.I]
 rw[mL ρ a,mL ρ b]
 unfold xf at h
 split at h
 ·rename_i k e1
  have:=Al u e1
  split at h
  ·cases h;exact decide_eq_true (by omega)
  ·split at h
   ·rename_i k2 e2
    have:=Al u e2
    split at h
    ·cases h;exact decide_eq_false (by omega)
    ·cases h
   ·cases h
 ·split at h
  ·rename_i k2 e2
   have:=Al u e2
   split at h
   ·cases h;exact decide_eq_false (by omega)
   ·cases h
  ·cases h
def qN (v:Iv):Bool:=match v.lo,v.hi with
 | some l,some h=>decide (-9223372036854775808<=l)&&decide (h<9223372036854775808)
 | _,_=>false
theorem vr {v:Iv} {x:Int} (h:v.ok x) (hi:qN v=true):IntKind.i64.wrap x=x:=by
 unfold qN at hi
 split at hi
 ·rename_i l Y M hu
  simp only[Bool.and_eq_true,decide_eq_true_eq]at hi
  have:=h.1 l M
  have:=h.2 Y hu
  exact IntWalk.i64_in x ⟨by omega,by omega⟩
 ·cases hi
def yT:U->U->U
 | .op .cV k a (.lit c),.lit d => .op .cV k a (.lit (c+d))
 | a,b => .op .cV .i64 a b
theorem Hm (ρ:aa) (a b:U):(yT a b).I ρ=a.I ρ+b.I ρ:=by
 unfold yT
 split<;>simp only[U.I,a7.I]<;>omega
def fq (B:J):U->U
 | .op .add .i64 a b=>if qN (fH B (yT (fq B a) (fq B b)))=true then yT (fq B a) (fq B b)else .op .add .i64 a b
 | .op .sub .i64 a (.lit c)=>if qN (fH B (yT (fq B a) (.lit (-c))))=true then yT (fq B a) (.lit (-c))else .op .sub .i64 a (.lit c)
 | .op .mul .i64 a b=>if qN (fH B (mkMul (fq B a) (fq B b)))=true then mkMul (fq B a) (fq B b)else .op .mul .i64 a b
 | .op .conv .i64 a b=>if qN (fH B (fq B a))=true then fq B a else .op .conv .i64 a b
 | e=>e
theorem Ci {ρ:aa} {B:J} (u:J.ok ρ B) (e:U):(fq B e).I ρ=e.I ρ:=by
 fun_induction fq B e with
 | case1 a b h d9 el =>
  have A:=vr (gU u _) h
  rw[Hm,d9,el]at A
  rw[Hm,d9,el]
  exact A.symm
 | case2=>rfl
 | case3 a c h ih =>
  have A:=vr (gU u _) h
  rw[Hm,ih]at A
  rw[Hm,ih]
  simp only[U.I,a7.I]at A ⊢
  rw[Int.sub_eq_add_neg];exact A.symm
 | case4=>rfl
 | case5 a b h d9 el =>
  have A:=vr (gU u _) h
  rw[yD,d9,el]at A
  rw[yD,d9,el]
  exact A.symm
 | case6=>rfl
 | case7 a b h ih =>
  have A:=vr (gU u _) h
  rw[ih]at A
  rw[ih]
  exact A.symm
 | case8=>rfl
 | case9=>rfl
def FV:U->Bool
 | .op .add _ _ _=>true
 | .op .sub _ _ _=>true
 | .op .mul _ _ _=>true
 | .op .conv _ _ _=>true
 | _=>false
def OG (B:J) (a b:U):Option Bool :=
 if(FV a||FV b)=true then
  let a:=fq B a
  let b:=fq B b
  if(base a).1.beq (base b).1=true then some (decide ((base a).2<(base b).2))
  else match yf (fH B a) (fH B b)with
   | some v=>some v
   | none=>xf B a b
 else none
theorem ai8 {ρ:aa} {B:J} (u:J.ok ρ B) {a b:U} {r:Bool} (h:OG B a b=some r):(BE.lt a b).I ρ=r:=by
 unfold OG at h
 split at h
 ·simp only at h
  rw[BE.I,<-Ci u a,<-Ci u b]
  split at h
  ·rename_i hb
   cases h
   rw[mL ρ (fq B a),mL ρ (fq B b),U.beq_eq _ _ hb]
   exact decide_eq_decide.2 (by omega)
  ·split at h
   ·rename_i A;cases h;exact yg (gU u _) (gU u _) A
   ·exact xg u h
 ·cases h
def OE (B:J) (a b:U):Option Bool :=
 if(FV a||FV b)=true then
  let a:=fq B a
  let b:=fq B b
  if(base a).1.beq (base b).1=true then some (decide ((base a).2=(base b).2))
  else match F1 (fH B a) (fH B b)with
   | some v=>some v
   | none=>match xf B a b,xf B b a with
    | some true,_=>some false
    | _,some true=>some false
    | some false,some false=>some true
    | _,_=>none
 else none
theorem ai7 {ρ:aa} {B:J} (u:J.ok ρ B) {a b:U} {r:Bool} (h:OE B a b=some r):(BE.eq a b).I ρ=r:=by
 unfold OE at h
 split at h
 ·simp only at h
  rw[BE.I,<-Ci u a,<-Ci u b]
  split at h
  ·rename_i hb
   cases h
   rw[mL ρ (fq B a),mL ρ (fq B b),U.beq_eq _ _ hb,Bool.eq_iff_iff,beq_iff_eq,decide_eq_true_eq]
   omega
  ·split at h
   ·rename_i A;cases h;exact VD (gU u _) (gU u _) A
   ·split at h
    ·rename_i A
     have A:=of_decide_eq_true (xg (ρ:=ρ) u A)
     cases h;exact beq_eq_false_iff_ne.2 (by omega)
    ·rename_i A _
     have A:=of_decide_eq_true (xg (ρ:=ρ) u A)
     cases h;exact beq_eq_false_iff_ne.2 (by omega)
    ·rename_i A E
     have A:=of_decide_eq_false (xg (ρ:=ρ) u A)
     have E:=of_decide_eq_false (xg (ρ:=ρ) u E)
     cases h;exact beq_iff_eq.2 (by omega)
    ·cases h
 ·cases h
def px (c:BE):J->Option Bool
 | []=>none
 | (d,v)::r=>if d.beq c=true then some v else px c r
theorem oq {ρ:aa} {c:BE} {v:Bool}:∀{B:J},J.ok ρ B->px c B=some v->c.I ρ=v
 | [],_,h=>by cases h
 | (d,Y)::r,u,h=>by
  simp only[px]at h
  split at h
  ·rename_i hb;cases h;rw[<-BE.beq_eq _ _ hb];exact(J.vU u).1
  ·exact oq (J.vU u).2 h
def zY (c:BE):Option Bool->BE
 | some v => .lit v
 | none=>c
theorem wX {ρ:aa} {c:BE} {o:Option Bool} (h:∀v,o=some v->c.I ρ=v):(zY c o).I ρ=c.I ρ:=by
 cases o with
 | none=>rfl
 | some v=>simp only[zY,BE.I];exact(h v rfl).symm
def ri:Option Bool->Option Bool->Option Bool
 | some v,_=>some v
 | none,b=>b
def red (B:J):BE->BE
 | .not a=>mkNot (red B a)
 | .and a b=>match px (.and a b) B with
  | some v => .lit v
  | none=>mkAnd (red B a) (red B b)
 | .or a b=>match px (.or a b) B with
  | some v => .lit v
  | none=>mkOr (red B a) (red B b)
 | .ite c a b=>match px (.ite c a b) B with
  | some v => .lit v
  | none=>im (red B c) (red B a) (red B b)
 | .lit b => .lit b
 | .lt a b=>zY (.lt a b) (ri (yf (fH B a) (fH B b)) (ri (px (.lt a b) B) (ri (xf B a b) (OG B a b))))
 | .eq a b=>zY (.eq a b) (ri (F1 (fH B a) (fH B b)) (ri (px (.eq a b) B) (ri (px (.eq b a) B) (OE B a b))))
 | c=>zY c (px c B)
theorem c9 {ρ:aa} {B:J} (u:J.ok ρ B):∀c:BE,(red B c).I ρ=c.I ρ
 | .not a=>by simp only[red,eu,BE.I,c9 u a]
 | .and a b=>by
  simp only[red]
  split
  ·rename_i v R;rw[oq u R];rfl
  ·simp only[fL,BE.I,c9 u a,c9 u b]
 | .or a b=>by
  simp only[red]
  split
  ·rename_i v R;rw[oq u R];rfl
  ·simp only[ow,BE.I,c9 u a,c9 u b]
 | .ite c a b=>by
  simp only[red]
  split
  ·rename_i v R;rw[oq u R];rfl
  ·simp only[kx,BE.I,c9 u c,c9 u a,c9 u b]
 | .lit b=>rfl
 | .lt a b=>by
  refine wX fun v R => ?_
  unfold ri at R
  split at R
  ·rename_i A;cases R;exact yg (gU u a) (gU u b) A
  ·split at R
   ·rename_i A;cases R;exact oq u A
   ·split at R
    ·rename_i A;cases R;exact xg u A
    ·exact ai8 u R
 | .eq a b=>by
  refine wX fun v R => ?_
  unfold ri at R
  split at R
  ·rename_i A;cases R;exact VD (gU u a) (gU u b) A
  ·split at R
   ·rename_i A;cases R;exact oq u A
   ·split at R
    ·rename_i A
     cases R
     have E:=oq u A
     simp only[BE.I]at E ⊢
     rw[<-E,Bool.eq_iff_iff,beq_iff_eq,beq_iff_eq]
     exact⟨Eq.symm,Eq.symm⟩
    ·exact ai7 u R
 | .var i=>wX fun v R=>oq u R
 | .cl l k j=>wX fun v R=>oq u R
 | .seq a b=>wX fun v R=>oq u R
 | .slt a b=>wX fun v R=>oq u R
def assume:BE->Bool->J->J
 | .not a,v,B=>assume a (!v) B
 | .and a b,true,B=>assume a true (assume b true B)
 | .or a b,false,B=>assume a false (assume b false B)
 | .lit _,_,B=>B
 | c,v,B=>(c,v)::B
theorem gm {ρ:aa}:∀(c:BE) (v:Bool) (B:J),c.I ρ=v->J.ok ρ B->J.ok ρ (assume c v B):=by
 intro c v B
 fun_induction assume c v B with
 | case1 a v B ih=>intro h u;simp only[BE.I]at h;exact ih (by rw[<-h];simp) u
 | case2 a b B d9 el=>intro h u;simp only[BE.I,Bool.and_eq_true]at h;exact el h.1 (d9 h.2 u)
 | case3 a b B d9 el=>intro h u;simp only[BE.I,Bool.or_eq_false_iff]at h;exact el h.1 (d9 h.2 u)
 | case4=>intro _ u;exact u
 | case5=>intro h u;exact J.av h u
inductive T (an:Type) where
 | ret (a:an)
 | br (c:BE) (x y:T an)
 | cL (c:BE) (x:T an)
 | fail (zA:List String)
noncomputable def T.aq {an:Type} (ρ:aa):T an->Option an
 | .ret a=>some a
 | .br c x y=>if c.I ρ=true then x.aq ρ else y.aq ρ
 | .cL c x=>if c.I ρ=true then x.aq ρ else none
 | .fail _=>none
def T.bind {an β:Type} (B:J) (f:J->an->T β):T an->T β
 | .ret a=>f B a
 | .br c x y => .br c (x.bind (assume c true B) f) (y.bind (assume c false B) f)
 | .cL c x => .cL c (x.bind (assume c true B) f)
 | .fail w => .fail w
theorem T.cQ {an β:Type} {ρ:aa} {f:J->an->T β} {b:β}:∀(t:T an) {B:J},J.ok ρ B->(t.bind B f).aq ρ=some b->∃aS a,J.ok ρ aS/\t.aq ρ=some a/\(f aS a).aq ρ=some b
 | .ret a,B,u,h=>⟨B,a,u,rfl,h⟩
 | .br c x y,B,u,h=>by
  simp only[T.bind,T.aq]at h ⊢
  split at h
  ·rename_i H;rw[if_pos H];exact T.cQ x (gm c true B H u) h
  ·rename_i H;rw[if_neg H];exact T.cQ y (gm c false B (by simpa using H) u) h
 | .cL c x,B,u,h=>by
  simp only[T.bind,T.aq]at h ⊢
  split at h
  ·rename_i H;rw[if_pos H];exact T.cQ x (gm c true B H u) h
  ·cases h
 | .fail _,_,_,h=>by cases h
def T.map {an β:Type} (f:an->β):T an->T β
 | .ret a => .ret (f a)
 | .br c x y => .br c (x.map f) (y.map f)
 | .cL c x => .cL c (x.map f)
 | .fail w => .fail w
theorem T.jd {an β:Type} {ρ:aa} {f:an->β} {b:β}:∀(t:T an),(t.map f).aq ρ=some b->∃a,t.aq ρ=some a/\b=f a
 | .ret a,h=>by cases h;exact⟨a,rfl,rfl⟩
 | .br c x y,h=>by
  simp only[T.map,T.aq]at h ⊢
  split at h
  ·rename_i H;rw[if_pos H];exact T.jd x h
  ·rename_i H;rw[if_neg H];exact T.jd y h
 | .cL c x,h=>by
  simp only[T.map,T.aq]at h ⊢
  split at h
  ·rename_i H;rw[if_pos H];exact T.jd x h
  ·cases h
 | .fail _,h=>by cases h
def sW {an:Type} (w:String):T an->T an
 | .fail [] => .fail [w]
 | t=>t
theorem P4 {an:Type} {ρ:aa} {w:String} {t:T an}:(sW w t).aq ρ=t.aq ρ:=by
 unfold sW;split<;>rfl
def T.zA {an:Type}:T an->List String
 | .ret _=>[]
 | .br _ x y=>match x.zA with
  | []=>y.zA
  | w=>w
 | .cL _ x=>x.zA
 | .fail w=>w
def part {an:Type} (B:J) (c:BE) (x y:J->T an):T an :=
 match red B c with
 | .lit true=>x B
 | .lit false=>y B
 | d => .br d (x (assume d true B)) (y (assume d false B))
theorem Y7 {an:Type} {ρ:aa} {B:J} {c:BE} {x y:J->T an} {a:an} (u:J.ok ρ B) (h:(part B c x y).aq ρ=some a):∃aS,J.ok ρ aS/\((c.I ρ=true/\(x aS).aq ρ=some a)\/(c.I ρ=false/\(y aS).aq ρ=some a)):=by
 have hr:=c9 u c
 unfold part at h
 split at h
 ·rename_i hd;rw[hd]at hr;exact⟨B,u,.inl ⟨hr.symm,h⟩⟩
 ·rename_i hd;rw[hd]at hr;exact⟨B,u,.inr ⟨hr.symm,h⟩⟩
 ·simp only[T.aq]at h
  split at h
  ·rename_i H;exact⟨_,gm _ true B H u,.inl ⟨by rw[<-hr];exact H,h⟩⟩
  ·rename_i H;exact⟨_,gm _ false B (by simpa using H) u,.inr ⟨by rw[<-hr];simpa using H,h⟩⟩
def want {an:Type} (B:J) (c:BE) (x:J->T an):T an :=
 match red B c with
 | .lit true=>x B
 | .lit false=>(.fail [])
 | d => .cL d (x (assume d true B))
theorem cW {an:Type} {ρ:aa} {B:J} {c:BE} {x:J->T an} {a:an} (u:J.ok ρ B) (h:(want B c x).aq ρ=some a):∃aS,J.ok ρ aS/\c.I ρ=true/\(x aS).aq ρ=some a:=by
 have hr:=c9 u c
 unfold want at h
 split at h
 ·rename_i hd;rw[hd]at hr;exact⟨B,u,hr.symm,h⟩
 ·cases h
 ·simp only[T.aq]at h
  split at h
  ·rename_i H;exact⟨_,gm _ true B H u,by rw[<-hr];exact H,h⟩
  ·cases h
end Go.Proofs.Xw
namespace Go.Proofs.Xw
open Go Go.Proofs.Aw
def mkAdd:U->U->U
 | .lit m,.lit n => .lit (m+n)
 | .op .fN k a (.lit m),.lit n=>if n==m then a else .op .cV .i64 (.op .fN k a (.lit m)) (.lit n)
 | .lit n,.op .fN k a (.lit m)=>if n==m then a else .op .cV .i64 (.lit n) (.op .fN k a (.lit m))
 | .op .cV j b (.lit n),.op .fN k a (.lit m)=>if n==m then .op .cV .i64 b a else .op .cV .i64 (.op .cV j b (.lit n)) (.op .fN k a (.lit m))
 | a,.lit n=>if n==0 then a else .op .cV .i64 a (.lit n)
 | .lit n,b=>if n==0 then b else .op .cV .i64 (.lit n) b
 | a,b => .op .cV .i64 a b
theorem fe (ρ:aa) (a b:U):(mkAdd a b).I ρ=a.I ρ+b.I ρ:=by
 unfold mkAdd
 split
 ·simp[U.I]
 ·split
  ·rename_i h;simp only[beq_iff_eq]at h;subst h;simp only[U.I,a7.I];omega
  ·simp[U.I,a7.I]
 ·split
  ·rename_i h;simp only[beq_iff_eq]at h;subst h;simp only[U.I,a7.I];omega
  ·simp[U.I,a7.I]
 ·split
  ·rename_i h;simp only[beq_iff_eq]at h;subst h;simp only[U.I,a7.I];omega
  ·simp[U.I,a7.I]
 ·split
  ·rename_i h;simp only[beq_iff_eq]at h;subst h;simp[U.I]
  ·simp[U.I,a7.I]
 ·split
  ·rename_i h;simp only[beq_iff_eq]at h;subst h;simp[U.I]
  ·simp[U.I,a7.I]
 ·simp[U.I,a7.I]
def mkSub:U->U->U
 | .lit m,.lit n => .lit (m-n)
 | .op .cV k a b,c=>if a.beq c=true then b else if b.beq c=true then a else .op .fN .i64 (.op .cV k a b) c
 | a,.lit n=>if n==0 then a else .op .fN .i64 a (.lit n)
 | a,b=>if a.beq b=true then .lit 0 else .op .fN .i64 a b
theorem nc (ρ:aa) (a b:U):(mkSub a b).I ρ=a.I ρ-b.I ρ:=by
 unfold mkSub
 split
 ·simp[U.I]
 ·split
  ·rename_i h;rw[<-U.beq_eq _ _ h];simp only[U.I,a7.I];omega
  ·split
   ·rename_i h;rw[<-U.beq_eq _ _ h];simp only[U.I,a7.I];omega
   ·simp[U.I,a7.I]
 ·split
  ·rename_i h;simp only[beq_iff_eq]at h;subst h;simp[U.I]
  ·simp[U.I,a7.I]
 ·split
  ·rename_i h;rw[U.beq_eq _ _ h];simp[U.I]
  ·simp[U.I,a7.I]
inductive Kd where
 | i (k:IntKind) | b | s
inductive Sc where
 | i (k:IntKind) (e:U) | b (e:BE) | s (e:TE) | f (n:U) (z:BE) | c (n:U) (z:BE) (m:U) (y:BE)
instance:Inhabited Sc:=⟨.b default⟩
noncomputable def Sc.I (ρ:aa):Sc->Value
 | .i k e => .int k (e.I ρ)
 | .b e => .bool (e.I ρ)
 | .s e => .string (e.I ρ)
 | .f n z => .float .f64 (fv (n.I ρ) (z.I ρ))
 | .c n z m y => .complex .f64 (fv (n.I ρ) (z.I ρ)) (fv (m.I ρ) (y.I ρ))
def Sc.beq:Sc->Sc->Bool
 | .i k e,.i k' e'=>ml k k'&&e.beq e'
 | .b e,.b e'=>e.beq e'
 | .s e,.s e'=>e.beq e'
 | .f n z,.f n' z'=>n.beq n'&&z.beq z'
 | .c n z m y,.c n' z' m' Dr=>n.beq n'&&(z.beq z'&&(m.beq m'&&y.beq Dr))
 | _,_=>false
theorem Sc.beq_eq {a b:Sc} (h:a.beq b=true):a=b:=by
 cases a<;>cases b<;>simp[Sc.beq]at h ⊢
 ·exact⟨oj h.1,U.beq_eq _ _ h.2⟩
 ·exact BE.beq_eq _ _ h
 ·exact TE.beq_eq _ _ h
 ·exact⟨U.beq_eq _ _ h.1,BE.beq_eq _ _ h.2⟩
 ·exact⟨U.beq_eq _ _ h.1,BE.beq_eq _ _ h.2.1,U.beq_eq _ _ h.2.2.1,BE.beq_eq _ _ h.2.2.2⟩
def Gt (c:BE):Sc->Sc->Option Sc
 | .i k a,.i k' b=>if ml k k'=true then some (.i k (lr c a b))else none
 | .b a,.b b=>some (.b (im c a b))
 | .s a,.s b=>some (.s (GC c a b))
 | .f n z,.f n' z'=>some (.f (lr c n n') (im c z z'))
 | .c n z m y,.c n' z' m' Dr=>some (.c (lr c n n') (im c z z') (lr c m m') (im c y Dr))
 | _,_=>none
theorem Wb {ρ:aa} {c:BE} {a b s:Sc} (h:Gt c a b=some s):s.I ρ=if c.I ρ=true then a.I ρ else b.I ρ:=by
 cases a<;>cases b<;>simp only[Gt,reduceCtorEq,Option.some.injEq]at h
 ·split at h
  ·rename_i u
   cases h
   rw[<-oj u]
   simp only[Sc.I,s6]
   split<;>rfl
  ·cases h
 ·subst h;simp only[Sc.I,kx];split<;>rfl
 ·subst h;simp only[Sc.I,Wj];split<;>rfl
 ·subst h;simp only[Sc.I,s6,kx];split<;>rfl
 ·subst h;simp only[Sc.I,s6,kx];split<;>rfl
noncomputable def b' (ρ:aa) (r:List Sc):List AV:=r.map fun s => .sc (s.I ρ)
def nb (c:BE):List Sc->List Sc->Option (List Sc)
 | [],[]=>some []
 | a::aF,b::bs=>match Gt c a b,nb c aF bs with
  | some s,some r=>some (s::r)
  | _,_=>none
 | _,_=>none
theorem vC {ρ:aa} {c:BE}:∀{a b s:List Sc},nb c a b=some s->b' ρ s=if c.I ρ=true then b' ρ a else b' ρ b
 | [],[],s,h=>by simp only[nb,Option.some.injEq]at h;subst h;simp
 | a::aF,b::bs,s,h=>by
  simp only[nb]at h
  split at h
  ·rename_i x r A E
   cases h
   have e1:=Wb (ρ:=ρ) A
   have e2:=vC (ρ:=ρ) E
   simp only[b',List.map_cons]at e2 ⊢
   rw[e1,e2]
   split<;>rfl
  ·cases h
 | [],_::_,_,h=>by simp[nb]at h
 | _::_,[],_,h=>by simp[nb]at h
inductive RL where
 | var (l:Nat) (ks:List Kd)
 | one (r:List Sc)
 | app (n:U) (a b:RL)
 | drop (n:U) (a:RL)
 | eL (i:U) (r:List Sc) (a:RL)
 | ite (c:BE) (a b:RL)
def bH (ρ:aa) (l:Nat):Nat->List Kd->Nat->List AV
 | _,[],_=>[]
 | k,.i K::ks,j => .sc (.int K (ρ.ci l k j))::bH ρ l (k+1) ks j
 | k,.b::ks,j => .sc (.bool (ρ.cb l k j))::bH ρ l (k+1) ks j
 | k,.s::ks,j => .sc (.string (ρ.cs l k j))::bH ρ l (k+1) ks j
noncomputable def RL.row (ρ:aa):RL->Int->List AV
 | .var l ks,j=>bH ρ l 0 ks j.toNat
 | .one r,_=>b' ρ r
 | .app n a b,j=>if j<n.I ρ then a.row ρ j else b.row ρ (j-n.I ρ)
 | .drop n a,j=>a.row ρ (j+n.I ρ)
 | .eL i r a,j=>if j=i.I ρ then b' ρ r else a.row ρ j
 | .ite c a b,j=>if c.I ρ=true then a.row ρ j else b.row ρ j
def qi (l:Nat) (j:U):Nat->List Kd->List Sc
 | _,[]=>[]
 | k,.i K::ks => .i K (.cl l k j)::qi l j (k+1) ks
 | k,.b::ks => .b (.cl l k j)::qi l j (k+1) ks
 | k,.s::ks => .s (.cl l k j)::qi l j (k+1) ks
theorem z_ (ρ:aa) (l:Nat) (j:U):∀(k:Nat) (ks:List Kd),b' ρ (qi l j k ks)=bH ρ l k ks (j.I ρ).toNat
 | _,[]=>rfl
 | k,.i K::ks=>by simp only[qi,bH,b',List.map_cons,Sc.I,U.I];exact congrArg _ (z_ ρ l j (k+1) ks)
 | k,.b::ks=>by simp only[qi,bH,b',List.map_cons,Sc.I,BE.I];exact congrArg _ (z_ ρ l j (k+1) ks)
 | k,.s::ks=>by simp only[qi,bH,b',List.map_cons,Sc.I,TE.I];exact congrArg _ (z_ ρ l j (k+1) ks)
def RL.get:RL->U->Option (List Sc)
 | .var l ks,j=>some (qi l j 0 ks)
 | .one r,_=>some r
 | .app n a b,j=>match mkLt j n with
  | .lit true=>a.get j
  | .lit false=>b.get (mkSub j n)
  | c=>match a.get j,b.get (mkSub j n)with
   | some x,some y=>nb c x y
   | _,_=>none
 | .drop n a,j=>a.get (mkAdd j n)
 | .eL i r a,j=>match mkEq j i with
  | .lit true=>some r
  | .lit false=>a.get j
  | c=>match a.get j with
   | some y=>nb c r y
   | none=>none
 | .ite c a b,j=>match a.get j,b.get j with
  | some x,some y=>nb c x y
  | _,_=>none
theorem RL.o_ {ρ:aa}:∀{l:RL} {j:U} {r:List Sc},l.get j=some r->b' ρ r=l.row ρ (j.I ρ)
 | .var l ks,j,r,h=>by
  simp only[RL.get,Option.some.injEq]at h
  subst h
  exact z_ ρ l j 0 ks
 | .one s,j,r,h=>by
  simp only[RL.get,Option.some.injEq]at h
  subst h;rfl
 | .app n a b,j,r,h=>by
  simp only[RL.get]at h
  have H:=gW ρ j n
  simp only[RL.row]
  split at h
  ·rename_i hd
   rw[hd]at H
   have:=of_decide_eq_true (H.symm)
   rw[if_pos this]
   exact RL.o_ h
  ·rename_i hd
   rw[hd]at H
   have:=of_decide_eq_false (H.symm)
   rw[if_neg this,<-nc]
   exact RL.o_ h
  ·split at h
   ·rename_i x y A E
    rw[vC h,RL.o_ A,RL.o_ E,nc,H]
    by_cases W:U.I ρ j<U.I ρ n
    ·rw[if_pos (decide_eq_true W),if_pos W]
    ·rw[if_neg (by simpa using W),if_neg W]
   ·cases h
 | .drop n a,j,r,h=>by
  simp only[RL.get]at h
  simp only[RL.row]
  rw[<-fe]
  exact RL.o_ h
 | .eL i q a,j,r,h=>by
  simp only[RL.get]at h
  have H:=eQ ρ j i
  simp only[RL.row]
  split at h
  ·rename_i hd
   rw[hd]at H
   cases h
   rw[if_pos (by simpa [BE.I]using H.symm)]
  ·rename_i hd
   rw[hd]at H
   rw[if_neg (by simpa [BE.I]using H.symm)]
   exact RL.o_ h
  ·split at h
   ·rename_i y E
    rw[vC h,RL.o_ E,H]
    by_cases W:U.I ρ j=U.I ρ i
    ·rw[if_pos (by simpa using W),if_pos W]
    ·rw[if_neg (by simpa using W),if_neg W]
   ·cases h
 | .ite c a b,j,r,h=>by
  simp only[RL.get]at h
  simp only[RL.row]
  split at h
  ·rename_i x y A E
   rw[vC h,RL.o_ A,RL.o_ E]
  ·cases h
def RL.wd (z:Nat):RL->Bool
 | .var _ ks=>Nat.beq ks.length z
 | .one r=>Nat.beq r.length z
 | .app _ a b=>a.wd z&&b.wd z
 | .drop _ a=>a.wd z
 | .eL _ r a=>Nat.beq r.length z&&a.wd z
 | .ite _ a b=>a.wd z&&b.wd z
theorem YZ (ρ:aa) (r:List Sc):(b' ρ r).length=r.length:=by simp[b']
theorem Es (ρ:aa) (l j:Nat):∀(ks:List Kd) (k:Nat),(bH ρ l k ks j).length=ks.length
 | [],_=>rfl
 | .i _::ks,k=>by simp only[bH,List.length_cons,Es ρ l j ks (k+1)]
 | .b::ks,k=>by simp only[bH,List.length_cons,Es ρ l j ks (k+1)]
 | .s::ks,k=>by simp only[bH,List.length_cons,Es ρ l j ks (k+1)]
theorem RL.tT {ρ:aa} {z:Nat}:∀{l:RL} {j:Int},l.wd z=true->(l.row ρ j).length=z
 | .var l ks,j,h=>by simp only[RL.row,Es];exact Nat.eq_of_beq_eq_true h
 | .one r,j,h=>by simp only[RL.row,YZ];exact Nat.eq_of_beq_eq_true h
 | .app n a b,j,h=>by
  simp only[RL.wd,Bool.and_eq_true]at h
  simp only[RL.row]
  split
  ·exact RL.tT h.1
  ·exact RL.tT h.2
 | .drop n a,j,h=>by simp only[RL.row];exact RL.tT (l:=a) h
 | .eL i r a,j,h=>by
  simp only[RL.wd,Bool.and_eq_true]at h
  simp only[RL.row]
  split
  ·rw[YZ];exact Nat.eq_of_beq_eq_true h.1
  ·exact RL.tT h.2
 | .ite c a b,j,h=>by
  simp only[RL.wd,Bool.and_eq_true]at h
  simp only[RL.row]
  split
  ·exact RL.tT h.1
  ·exact RL.tT h.2
def yl:Kd->Kd->Bool
 | .i k,.i k'=>ml k k'
 | .b,.b=>true
 | .s,.s=>true
 | _,_=>false
theorem F6 {x y:Kd} (h:yl x y=true):x=y:=by cases x<;>cases y<;>simp[yl]at h ⊢;exact oj h
def jA {an:Type} (f:an->an->Bool):List an->List an->Bool
 | [],[]=>true
 | a::aF,b::bs=>f a b&&jA f aF bs
 | _,_=>false
theorem mn {an:Type} {f:an->an->Bool} (hf:∀a b,f a b=true->a=b):∀{aF bs:List an},jA f aF bs=true->aF=bs
 | [],[],_=>rfl
 | a::aF,b::bs,h=>by
  simp only[jA,Bool.and_eq_true]at h
  rw[hf _ _ h.1,mn hf h.2]
 | [],_::_,h=>by simp[jA]at h
 | _::_,[],h=>by simp[jA]at h
def RL.beq:RL->RL->Bool
 | .var l ks,.var l' li=>Nat.beq l l'&&jA yl ks li
 | .one r,.one r'=>jA Sc.beq r r'
 | .app n a b,.app n' bz dl=>n.beq n'&&(a.beq bz&&b.beq dl)
 | .drop n a,.drop n' bz=>n.beq n'&&a.beq bz
 | .eL i r a,.eL i' r' bz=>i.beq i'&&(jA Sc.beq r r'&&a.beq bz)
 | .ite c a b,.ite dw bz dl=>c.beq dw&&(a.beq bz&&b.beq dl)
 | _,_=>false
theorem RL.beq_eq:∀{a b:RL},a.beq b=true->a=b
 | .var l ks,b,h=>by
  cases b<;>simp[RL.beq]at h ⊢
  exact⟨h.1,mn (fun _ _=>F6) h.2⟩
 | .one r,b,h=>by
  cases b<;>simp[RL.beq]at h ⊢
  exact mn (fun _ _=>Sc.beq_eq) h
 | .app n x y,b,h=>by
  cases b<;>simp[RL.beq]at h ⊢
  exact⟨U.beq_eq _ _ h.1,RL.beq_eq h.2.1,RL.beq_eq h.2.2⟩
 | .drop n x,b,h=>by
  cases b<;>simp[RL.beq]at h ⊢
  exact⟨U.beq_eq _ _ h.1,RL.beq_eq h.2⟩
 | .eL i r x,b,h=>by
  cases b<;>simp[RL.beq]at h ⊢
  exact⟨U.beq_eq _ _ h.1,mn (fun _ _=>Sc.beq_eq) h.2.1,RL.beq_eq h.2.2⟩
 | .ite c x y,b,h=>by
  cases b<;>simp[RL.beq]at h ⊢
  exact⟨BE.beq_eq _ _ h.1,RL.beq_eq h.2.1,RL.beq_eq h.2.2⟩
def yE (c:BE) (a b:RL):RL:=if a.beq b=true then a else .ite c a b
theorem Wk (ρ:aa) (c:BE) (a b:RL) (j:Int):(yE c a b).row ρ j=if c.I ρ=true then a.row ρ j else b.row ρ j:=by
 unfold yE
 split
 ·rename_i h;rw[RL.beq_eq h,ite_self]
 ·rfl
inductive Nk where
 | f (k:Kd)
 | r (z S:Nat) (ks:List Kd)
def r4 (ρ:aa) (l k:Nat) (j:Nat):Kd->AV
 | .i K => .sc (.int K (ρ.ci l k j))
 | .b => .sc (.bool (ρ.cb l k j))
 | .s => .sc (.string (ρ.cs l k j))
def oI (ρ:aa) (S:Nat) (ks:List Kd) (off n:Int):List (List AV):=(List.range n.toNat).map fun(e:Nat)=>bH ρ S 0 ks ((e:Int)+off).toNat
def dL (ρ:aa) (l:Nat):Nat->List Nk->Nat->List AV
 | _,[],_=>[]
 | k,.f kd::ks,j=>r4 ρ l k j kd::dL ρ l (k+1) ks j
 | k,.r z S kk::ks,j => .ro z (oI ρ S kk (ρ.ci l k j) (ρ.ci l (k+1000) j)) false::dL ρ l (k+1) ks j
theorem JV (ρ:aa) (l j:Nat):∀(ks:List Nk) (k:Nat),(dL ρ l k ks j).length=ks.length
 | [],_=>rfl
 | .f _::ks,k=>by simp only[dL,List.length_cons,JV ρ l j ks (k+1)]
 | .r _ _ _::ks,k=>by simp only[dL,List.length_cons,JV ρ l j ks (k+1)]
def GL:Nk->Nk->Bool
 | .f x,.f y=>yl x y
 | .r z S ks,.r z' S' li=>Nat.beq z z'&&(Nat.beq S S'&&jA yl ks li)
 | _,_=>false
theorem WE {x y:Nk} (h:GL x y=true):x=y:=by
 cases x<;>cases y<;>simp only[GL,Bool.false_eq_true,Bool.and_eq_true]at h
 ·rw[F6 h]
 ·rw[Nat.eq_of_beq_eq_true h.1,Nat.eq_of_beq_eq_true h.2.1,mn (fun _ _=>F6) h.2.2]
inductive X where
 | top
 | k (v:Value)
 | sc (s:Sc)
 | agg (cs:List X)
 | tup (vs:List X)
 | ptr (n:Nm) (aF:List (BE×Nat)) (d:Nat)
 | sl (n:Nm) (z off len:Nat) (own:Bool)
 | ip (cs:List X) (aF:List (BE×Nat)) (d:Nat)
 | ro (z:Nat) (D:List (List X)) (full:Bool)
 | rl (z:Nat) (n:U) (l:RL) (full:Bool)
 | fn (f:Fn) (first cap:List X)
 | gd (c:BE) (x:X)
 | rows (z:Nat) (n:U) (l:RL)
 | slv (n:Nm) (z:Nat) (off len:U) (own:Bool)
 | du (n:Nm) (z:Nat) (j:U) (o:Nat)
 | rn (z:Nat) (n:U) (l:Nat) (ks:List Nk) (full:Bool)
 | tk (z:Nat) (m:U) (t:Nat) (D:List (List X))
 | tq (z:Nat) (m:U) (t:Nat) (D:List (List X)) (full:Bool)
 | cJ (t k:Nat) (j:U)
instance:Inhabited X:=⟨.top⟩
noncomputable def choose (ρ:aa):List (BE×Nat)->Nat->Nat
 | [],d=>d
 | (c,o)::r,d=>if c.I ρ=true then o else choose ρ r d
noncomputable def aV (ρ:aa) (n:U) (l:RL):List (List AV):=(List.range (n.I ρ).toNat).map fun(j:Nat)=>l.row ρ j
noncomputable def fQ (ρ:aa) (n:U) (l:Nat) (ks:List Nk):List (List AV):=(List.range (n.I ρ).toNat).map fun(j:Nat)=>dL ρ l 0 ks j
noncomputable def bB (ρ:aa) (z:Nat) (m:U) (t:Nat):List (List AV):=(List.range (m.I ρ).toNat).map fun(j:Nat)=>(List.range z).map fun k=>(ρ.ct t k j).1
mutual
noncomputable def X.I (ρ:aa):X->AV
 | .top => .top
 | .k v => .sc v
 | .sc s => .sc (s.I ρ)
 | .agg cs => .agg (X.af ρ cs)
 | .tup vs => .tup (X.af ρ vs)
 | .ptr n aF d => .ptr n (choose ρ aF d)
 | .sl n z off len own => .sl n z off len own
 | .ip cs aF d => .ip (X.af ρ cs) (choose ρ aF d)
 | .ro z D full => .ro z (X.aX ρ D) full
 | .rl z n l full => .ro z (aV ρ n l) full
 | .fn f xs ys => .fn f (X.af ρ xs) (X.af ρ ys)
 | .gd c x=>if c.I ρ=true then x.I ρ else .sc undef
 | .rows _ _ _ => .top
 | .slv n z off len own => .sl n z ((off.I ρ).toNat*z) (len.I ρ).toNat own
 | .du n z j o => .ptr n ((j.I ρ).toNat*z+o)
 | .rn z n l ks full => .ro z (fQ ρ n l ks) full
 | .tk _ _ _ _ => .top
 | .tq z m t D full => .ro z (bB ρ z m t++X.aX ρ D) full
 | .cJ t o j=>(ρ.ct t o (j.I ρ).toNat).1
noncomputable def X.af (ρ:aa):List X->List AV
 | []=>[]
 | x::xs=>x.I ρ::X.af ρ xs
noncomputable def X.aX (ρ:aa):List (List X)->List (List AV)
 | []=>[]
 | e::D=>X.af ρ e::X.aX ρ D
end
theorem X.l5 (ρ:aa):∀l,X.af ρ l=l.map (X.I ρ)
 | []=>rfl
 | x::xs=>by simp only[X.af,List.map_cons,X.l5 ρ xs]
theorem X.ef (ρ:aa):∀l,X.aX ρ l=l.map (X.af ρ)
 | []=>rfl
 | x::xs=>by simp only[X.aX,List.map_cons,X.ef ρ xs]
theorem X.f_ (ρ:aa) (l:List X):(X.af ρ l).length=l.length:=by rw[X.l5];simp
theorem X.gp (ρ:aa) (l m:List X):X.af ρ (l++m)=X.af ρ l++X.af ρ m:=by simp[X.l5]
theorem X.Kr (ρ:aa) (l:List X) (n:Nat):X.af ρ (l.take n)=(X.af ρ l).take n:=by simp[X.l5]
theorem X.xc (ρ:aa) (l:List X) (n:Nat):X.af ρ (l.drop n)=(X.af ρ l).drop n:=by simp[X.l5]
theorem X.r_ (ρ:aa) (l:List X) (i:Nat):(X.af ρ l)[i]? = (l[i]?).map (X.I ρ):=by simp[X.l5]
theorem X.xa (ρ:aa) (l:List (List X)) (i:Nat):(X.aX ρ l)[i]? = (l[i]?).map (X.af ρ):=by simp[X.ef]
def Cm (r:List Sc):List X:=r.map .sc
theorem OJ (ρ:aa) (r:List Sc):X.af ρ (Cm r)=b' ρ r:=by simp[X.l5,Cm,b',X.I]
def adt (l:Nat) (e:U) (k:Nat):Kd->X
 | .i K => .sc (.i K (.cl l k e))
 | .b => .sc (.b (.cl l k e))
 | .s => .sc (.s (.cl l k e))
def uy (l:Nat) (e:U):Nat->List Nk->List X
 | _,[]=>[]
 | k,.f kd::ks=>adt l e k kd::uy l e (k+1) ks
 | k,.r z S kk::ks => .rl z (.cl l (k+1000) e) (.drop (.cl l k e) (.var S kk)) false::uy l e (k+1) ks
theorem JU (ρ:aa) (l:Nat) (e:U):∀(ks:List Nk) (k:Nat),X.af ρ (uy l e k ks)=dL ρ l k ks (e.I ρ).toNat
 | [],_=>rfl
 | .f kd::ks,k=>by
  simp only[uy,dL,X.af,JU ρ l e ks (k+1)]
  congr 1
  cases kd<;>rfl
 | .r z S kk::ks,k=>by
  simp only[uy,dL,X.af,JU ρ l e ks (k+1)]
  rfl
def whole (w:Nat):Int:=match(Ieee.double.read w).toInt .zero with
 | some n=>n
 | none=>0
def mz:Value->X
 | .int k i => .sc (.i k (.lit i))
 | .bool b => .sc (.b (.lit b))
 | .string s => .sc (.s (.lit s))
 | .float .f64 w=>if Nat.beq (fv (whole w) false) w=true then .sc (.f (.lit (whole w)) (.lit false))else .k (.float .f64 w)
 | .complex .f64 w Y=>if(Nat.beq (fv (whole w) false) w&&Nat.beq (fv (whole Y) false) Y)=true then .sc (.c (.lit (whole w)) (.lit false) (.lit (whole Y)) (.lit false))else .k (.complex .f64 w Y)
 | v => .k v
theorem W0 (ρ:aa) (v:Value):(mz v).I ρ = .sc v:=by
 unfold mz
 split
 ·rfl
 ·rfl
 ·rfl
 ·split
  ·rename_i h
   simp only[X.I,Sc.I,U.I,BE.I,Nat.eq_of_beq_eq_true h]
  ·rfl
 ·split
  ·rename_i h
   rw[Bool.and_eq_true]at h
   simp only[X.I,Sc.I,U.I,BE.I,Nat.eq_of_beq_eq_true h.1,Nat.eq_of_beq_eq_true h.2]
  ·rfl
 ·rfl
def zw:Value->Value->Bool
 | .pointer none,.pointer none=>true
 | .slice none a b,.slice none bz dl=>Nat.beq a bz&&Nat.beq b dl
 | .nilFunc,.nilFunc=>true
 | .nilIface,.nilIface=>true
 | .tuple ⟨[]⟩,.tuple ⟨[]⟩=>true
 | _,_=>false
theorem QP {a b:Value} (h:zw a b=true):a=b:=by
 unfold zw at h
 split at h
 ·rfl
 ·simp at h;rw[h.1,h.2]
 ·rfl
 ·rfl
 ·rfl
 ·cases h
def cN (a b:Nm):Bool:=Nat.beq a.1 b.1&&Nat.beq a.2 b.2
theorem ew {a b:Nm} (h:cN a b=true):a=b:=by
 simp only[cN,Bool.and_eq_true]at h
 exact Prod.ext (Nat.eq_of_beq_eq_true h.1) (Nat.eq_of_beq_eq_true h.2)
def wY (a b:BE×Nat):Bool:=a.1.beq b.1&&Nat.beq a.2 b.2
theorem z0 (a b:BE×Nat) (h:wY a b=true):a=b:=by
 simp only[wY,Bool.and_eq_true]at h
 exact Prod.ext (BE.beq_eq _ _ h.1) (Nat.eq_of_beq_eq_true h.2)
def E_:Fn->Fn->Bool
 | .func a,.func b=>Nat.beq a b
 | _,_=>false
theorem T7 {a b:Fn} (h:E_ a b=true):a=b:=by
 unfold E_ at h
 split at h
 ·simp at h;rw[h]
 ·cases h
mutual
def X.beq:X->X->Bool
 | .top,.top=>true
 | .k v,.k w=>zw v w
 | .sc s,.sc s'=>s.beq s'
 | .agg cs,.agg bn=>X.fh cs bn
 | .tup cs,.tup bn=>X.fh cs bn
 | .ptr n aF d,.ptr n' t6 fD=>cN n n'&&(Nat.beq d fD&&jA wY aF t6)
 | .sl n z o l w,.sl n' z' o' l' w'=>cN n n'&&(Nat.beq z z'&&(Nat.beq o o'&&(Nat.beq l l'&&w==w')))
 | .ip cs aF d,.ip bn t6 fD=>Nat.beq d fD&&(jA wY aF t6&&X.fh cs bn)
 | .ro z D f,.ro z' bi f'=>Nat.beq z z'&&(f==f'&&X.nP D bi)
 | .rl z n l f,.rl z' n' l' f'=>Nat.beq z z'&&(f==f'&&(n.beq n'&&l.beq l'))
 | .fn f xs ys,.fn f' v6 wl=>E_ f f'&&(X.fh xs v6&&X.fh ys wl)
 | .gd c x,.gd dw Q4=>c.beq dw&&x.beq Q4
 | .rows z n l,.rows z' n' l'=>Nat.beq z z'&&(n.beq n'&&l.beq l')
 | .slv n z o l w,.slv n' z' o' l' w'=>cN n n'&&(Nat.beq z z'&&(o.beq o'&&(l.beq l'&&w==w')))
 | .du n z j o,.du n' z' j' o'=>cN n n'&&(Nat.beq z z'&&(j.beq j'&&Nat.beq o o'))
 | .rn z n l ks f,.rn z' n' l' li f'=>Nat.beq z z'&&(f==f'&&(n.beq n'&&(Nat.beq l l'&&jA GL ks li)))
 | .tk z m t D,.tk z' m' t' bi=>Nat.beq z z'&&(m.beq m'&&(Nat.beq t t'&&X.nP D bi))
 | .tq z m t D f,.tq z' m' t' bi f'=>Nat.beq z z'&&(f==f'&&(m.beq m'&&(Nat.beq t t'&&X.nP D bi)))
 | .cJ t o j,.cJ t' o' j'=>Nat.beq t t'&&(Nat.beq o o'&&j.beq j')
 | _,_=>false
def X.fh:List X->List X->Bool
 | [],[]=>true
 | a::aF,b::bs=>a.beq b&&X.fh aF bs
 | _,_=>false
def X.nP:List (List X)->List (List X)->Bool
 | [],[]=>true
 | a::aF,b::bs=>X.fh a b&&X.nP aF bs
 | _,_=>false
end
mutual
theorem X.beq_eq:∀(a b:X),a.beq b=true->a=b
 | .top,b,h=>by cases b<;>simp[X.beq]at h ⊢
 | .k v,b,h=>by cases b<;>simp[X.beq]at h ⊢;exact QP h
 | .sc v,b,h=>by cases b<;>simp[X.beq]at h ⊢;exact Sc.beq_eq h
 | .agg cs,b,h=>by cases b<;>simp[X.beq]at h ⊢;exact X.gN _ _ h
 | .tup cs,b,h=>by cases b<;>simp[X.beq]at h ⊢;exact X.gN _ _ h
 | .ptr n aF d,b,h=>by
  cases b<;>simp[X.beq]at h ⊢
  exact⟨ew h.1,mn z0 h.2.2,h.2.1⟩
 | .sl n z o l w,b,h=>by
  cases b<;>simp[X.beq]at h ⊢
  exact⟨ew h.1,h.2.1,h.2.2.1,h.2.2.2.1,h.2.2.2.2⟩
 | .ip cs aF d,b,h=>by
  cases b<;>simp[X.beq]at h ⊢
  exact⟨X.gN _ _ h.2.2,mn z0 h.2.1,h.1⟩
 | .ro z D f,b,h=>by
  cases b<;>simp[X.beq]at h ⊢
  exact⟨h.1,X.uw _ _ h.2.2,h.2.1⟩
 | .rl z n l f,b,h=>by
  cases b<;>simp[X.beq]at h ⊢
  exact⟨h.1,U.beq_eq _ _ h.2.2.1,RL.beq_eq h.2.2.2,h.2.1⟩
 | .fn f xs ys,b,h=>by
  cases b<;>simp[X.beq]at h ⊢
  exact⟨T7 h.1,X.gN _ _ h.2.1,X.gN _ _ h.2.2⟩
 | .gd c x,b,h=>by
  cases b<;>simp[X.beq]at h ⊢
  exact⟨BE.beq_eq _ _ h.1,X.beq_eq _ _ h.2⟩
 | .rows z n l,b,h=>by
  cases b<;>simp[X.beq]at h ⊢
  exact⟨h.1,U.beq_eq _ _ h.2.1,RL.beq_eq h.2.2⟩
 | .slv n z o l w,b,h=>by
  cases b<;>simp[X.beq]at h ⊢
  exact⟨ew h.1,h.2.1,U.beq_eq _ _ h.2.2.1,U.beq_eq _ _ h.2.2.2.1,h.2.2.2.2⟩
 | .du n z j o,b,h=>by
  cases b<;>simp[X.beq]at h ⊢
  exact⟨ew h.1,h.2.1,U.beq_eq _ _ h.2.2.1,h.2.2.2⟩
 | .rn z n l ks f,b,h=>by
  cases b<;>simp[X.beq]at h ⊢
  exact⟨h.1,U.beq_eq _ _ h.2.2.1,h.2.2.2.1,mn (fun _ _=>WE) h.2.2.2.2,h.2.1⟩
 | .tk z m t D,b,h=>by
  cases b<;>simp[X.beq]at h ⊢
  exact⟨h.1,U.beq_eq _ _ h.2.1,h.2.2.1,X.uw _ _ h.2.2.2⟩
 | .tq z m t D f,b,h=>by
  cases b<;>simp[X.beq]at h ⊢
  exact⟨h.1,U.beq_eq _ _ h.2.2.1,h.2.2.2.1,X.uw _ _ h.2.2.2.2,h.2.1⟩
 | .cJ t o j,b,h=>by
  cases b<;>simp[X.beq]at h ⊢
  exact⟨h.1,h.2.1,U.beq_eq _ _ h.2.2⟩
theorem X.gN:∀(a b:List X),X.fh a b=true->a=b
 | [],[],_=>rfl
 | a::aF,b::bs,h=>by
  simp only[X.fh,Bool.and_eq_true]at h
  rw[X.beq_eq a b h.1,X.gN aF bs h.2]
 | [],_::_,h=>by simp[X.fh]at h
 | _::_,[],h=>by simp[X.fh]at h
theorem X.uw:∀(a b:List (List X)),X.nP a b=true->a=b
 | [],[],_=>rfl
 | a::aF,b::bs,h=>by
  simp only[X.nP,Bool.and_eq_true]at h
  rw[X.gN a b h.1,X.uw aF bs h.2]
 | [],_::_,h=>by simp[X.nP]at h
 | _::_,[],h=>by simp[X.nP]at h
end
mutual
def X.en (c:BE):X->X->Option X
 | .sc a,.sc b=>match Gt c a b with
  | some s=>some (.sc s)
  | none=>none
 | .agg cs,.agg ds=>match X.pA c cs ds with
  | some D=>some (.agg D)
  | none=>none
 | .tup cs,.tup ds=>match X.pA c cs ds with
  | some D=>some (.tup D)
  | none=>none
 | .slv n z o l w,.slv n' z' o' l' w'=>if(cN n n'&&(Nat.beq z z'&&w==w'))=true then some (.slv n z (lr c o o') (lr c l l') w)else none
 | .rl z n l f,.rl z' n' l' f'=>if(Nat.beq z z'&&f==f')=true then some (.rl z (lr c n n') (yE c l l') f)else none
 | x,y=>if x.beq y=true then some x else none
def X.pA (c:BE):List X->List X->Option (List X)
 | [],[]=>some []
 | a::aF,b::bs=>match X.en c a b with
  | some s=>match X.pA c aF bs with
   | some r=>some (s::r)
   | none=>none
  | none=>none
 | _,_=>none
end
theorem hP {ρ:aa} {c:BE} {x y z:X} (h:(if x.beq y=true then some x else none)=some z):z.I ρ=if c.I ρ=true then x.I ρ else y.I ρ:=by
 split at h
 ·rename_i hb;cases h;rw[<-X.beq_eq _ _ hb];simp
 ·cases h
mutual
theorem X.B_ {ρ:aa} {c:BE}:∀(x y z:X),X.en c x y=some z->z.I ρ=if c.I ρ=true then x.I ρ else y.I ρ
 | .sc a,y,z,h=>by
  cases y
  case sc b =>
   simp only[X.en]at h
   split at h
   ·rename_i s hs
    cases h
    simp only[X.I,Wb (ρ:=ρ) hs]
    split<;>rfl
   ·cases h
  all_goals exact hP (by simpa only[X.en]using h)
 | .agg cs,y,z,h=>by
  cases y
  case agg ds =>
   simp only[X.en]at h
   split at h
   ·rename_i s hs
    cases h
    simp only[X.I,X.B8 cs ds s hs]
    split<;>rfl
   ·cases h
  all_goals exact hP (by simpa only[X.en]using h)
 | .tup cs,y,z,h=>by
  cases y
  case tup ds =>
   simp only[X.en]at h
   split at h
   ·rename_i s hs
    cases h
    simp only[X.I,X.B8 cs ds s hs]
    split<;>rfl
   ·cases h
  all_goals exact hP (by simpa only[X.en]using h)
 | .top,y,z,h=>hP (by simpa only[X.en]using h)
 | .k _,y,z,h=>hP (by simpa only[X.en]using h)
 | .ptr _ _ _,y,z,h=>hP (by simpa only[X.en]using h)
 | .sl _ _ _ _ _,y,z,h=>hP (by simpa only[X.en]using h)
 | .ip _ _ _,y,z,h=>hP (by simpa only[X.en]using h)
 | .ro _ _ _,y,z,h=>hP (by simpa only[X.en]using h)
 | .rl z n l f,y,q,h=>by
  cases y
  case rl z' n' l' f' =>
   simp only[X.en]at h
   split at h
   ·rename_i H
    simp only[Bool.and_eq_true,beq_iff_eq]at H
    have hz:=Nat.eq_of_beq_eq_true H.1
    have hf:=H.2
    subst hz hf
    cases h
    simp only[X.I]
    have:aV ρ (lr c n n') (yE c l l')=if c.I ρ=true then aV ρ n l else aV ρ n' l':=by
     unfold aV
     rw[s6]
     simp only[Wk]
     split<;>rfl
    rw[this]
    split<;>rfl
   ·cases h
  all_goals exact hP (by simpa only[X.en]using h)
 | .slv n z o l w,y,q,h=>by
  cases y
  case slv n' z' o' l' w' =>
   simp only[X.en]at h
   split at h
   ·rename_i H
    simp only[Bool.and_eq_true,beq_iff_eq]at H
    have hn:=ew H.1
    have hz:=Nat.eq_of_beq_eq_true H.2.1
    have hw:=H.2.2
    subst hn hz hw
    cases h
    simp only[X.I,s6]
    split<;>rfl
   ·cases h
  all_goals exact hP (by simpa only[X.en]using h)
 | .rows _ _ _,y,z,h=>hP (by simpa only[X.en]using h)
 | .du _ _ _ _,y,z,h=>hP (by simpa only[X.en]using h)
 | .rn _ _ _ _ _,y,z,h=>hP (by simpa only[X.en]using h)
 | .tk _ _ _ _,y,z,h=>hP (by simpa only[X.en]using h)
 | .tq _ _ _ _ _,y,z,h=>hP (by simpa only[X.en]using h)
 | .cJ _ _ _,y,z,h=>hP (by simpa only[X.en]using h)
 | .fn _ _ _,y,z,h=>hP (by simpa only[X.en]using h)
 | .gd _ _,y,z,h=>hP (by simpa only[X.en]using h)
theorem X.B8 {ρ:aa} {c:BE}:∀(x y z:List X),X.pA c x y=some z->X.af ρ z=if c.I ρ=true then X.af ρ x else X.af ρ y
 | [],[],z,h=>by simp only[X.pA,Option.some.injEq]at h;subst h;simp
 | a::aF,b::bs,z,h=>by
  simp only[X.pA]at h
  split at h
  ·rename_i s hs
   split at h
   ·rename_i r hr
    cases h
    simp only[X.af,X.B_ a b s hs,X.B8 aF bs r hr]
    split<;>rfl
   ·cases h
  ·cases h
 | [],_::_,_,h=>by simp[X.pA]at h
 | _::_,[],_,h=>by simp[X.pA]at h
end
end Go.Proofs.Xw
namespace Go.Proofs.Xw
open Go Go.Proofs.Aw
structure TI where
 cells:Nat
 agg:Option Bool
 zero:Option (List Value)
 arr:Option (Nat×Nat)
 rV:Option Bool
 sl:Option (Nat×Nat)
 rc:Option (List (Nat×Nat))
 XL:Option (List (Option Bool))
 str:Bool
 w3:Bool
 V7:Option (List Nat)
 kU:Nat
 x':Option IntKind
 QM:Bool
 fl:Bool
 pt:Bool
def zeroV (P:Program) (t:TypeId):Option (List Value):=(P.info? t).bind fun i=>i.zero.map fun v=>v.cells.toList
theorem I_ (P:Program) (t:TypeId):fy P t=(zeroV P t).map fun l=>l.map AV.sc:=by
 unfold fy zeroV
 cases P.info? t with
 | none=>rfl
 | some i=>cases h:i.zero<;>simp[h]
def MW (P:Program) (t:TypeId):Option IntKind:=match P.underlying t with | some (.int k)=>some k | _=>none
def Lr (P:Program) (t:TypeId):Bool:=match P.underlying t with | some (.float .f64)=>true | _=>false
def cq (P:Program) (t:TypeId):TI :=
 { cells:=P.cellsOf t,agg:=eT P t,zero:=zeroV P t,arr:=er P t,rV:=rV P t,sl:=bE P t,rc:=jb P t,XL:=CB P t,str:=nt P t,w3:=w4 P t,V7:=vy P t,kU:=de P t,x':=MW P t,QM:=(P.underlying t).isSome,fl:=Lr P t,pt:=Cx P t }
abbrev au:=List (Nm×List X)
abbrev aL:=List (Nm×Option (List X))
abbrev ba:=List (Nat×X)
def b5:List X->Bool
 | [.rows _ _ _]=>true
 | [.tk _ _ _ _]=>true
 | _=>false
noncomputable def aA (ρ:aa):List X->List AV
 | [.rows _ n l]=>(aV ρ n l).flatten
 | [.tk z m t D]=>(bB ρ z m t++X.aX ρ D).flatten
 | cs=>X.af ρ cs
theorem cP {ρ:aa} {cs:List X} (h:b5 cs=false):aA ρ cs=X.af ρ cs:=by
 unfold aA
 split
 ·simp[b5]at h
 ·simp[b5]at h
 ·rfl
def bg:au->Nm->Option (List X)
 | [],_=>none
 | (m,v)::l,n=>if cN m n=true then some v else bg l n
def OC (cs:List X):Option (List X):=if b5 cs=true then none else some cs
def ph (h:au) (n:Nm):Option (List X):=match bg h n with
 | some cs=>OC cs
 | none=>none
theorem ai3 {cs ds:List X} (h:OC cs=some ds):cs=ds/\b5 ds=false:=by
 unfold OC at h
 split at h
 ·cases h
 ·rename_i hr;cases h;exact⟨rfl,by simpa using hr⟩
theorem af3 {h:au} {n:Nm} {cs:List X} (Z:ph h n=some cs):bg h n=some cs/\b5 cs=false:=by
 unfold ph at Z
 split at Z
 ·rename_i ds hd
  obtain⟨A,E⟩:=ai3 Z
  subst A
  exact⟨hd,E⟩
 ·cases Z
def xR:au->Nm->au
 | [],_=>[]
 | (m,v)::l,n=>if cN m n=true then xR l n else(m,v)::xR l n
def x2:au->Nm->List X->au
 | [],n,v=>[(n,v)]
 | (m,Y)::l,n,v=>if cN m n=true then(m,v)::l else(m,Y)::x2 l n v
def ig:aL->au->au
 | [],h=>h
 | (n,some v)::d,h=>ig d (x2 h n v)
 | (n,none)::d,h=>ig d (xR h n)
noncomputable def aN (ρ:aa) (h:au):Hp:=h.map fun p=>(p.1,aA ρ p.2)
noncomputable def bk (ρ:aa) (d:aL):Dl:=d.map fun p=>(p.1,p.2.map (aA ρ))
noncomputable def fm (ρ:aa) (t:ba):Tp:=t.map fun p=>(p.1,p.2.I ρ)
theorem Ow {a b:Nm}:cN a b=true↔a=b:=⟨ew,fun h=>by subst h;simp[cN]⟩
theorem cG (ρ:aa) (n:Nm):∀h:au,ae (aN ρ h) n=(bg h n).map (aA ρ)
 | []=>rfl
 | (m,v)::l=>by
  have ih:=cG ρ n l
  simp only[aN,List.map_cons,ae,bg,Ow]at ih ⊢
  by_cases e:m=n
  ·rw[if_pos e,if_pos e];rfl
  ·rw[if_neg e,if_neg e];exact ih
theorem xV {ρ:aa} {n:Nm} {h:au} {cs:List X} (Z:ph h n=some cs):ae (aN ρ h) n=some (X.af ρ cs):=by
 obtain⟨A,E⟩:=af3 Z
 rw[cG,A,Option.map_some,cP E]
theorem SX (ρ:aa) (n:Nm):∀h:au,aN ρ (xR h n)=pg (aN ρ h) n
 | []=>rfl
 | (m,v)::l=>by
  have ih:=SX ρ n l
  simp only[aN,List.map_cons,pg,xR,Ow]at ih ⊢
  by_cases e:m=n
  ·rw[if_pos e,if_pos e];exact ih
  ·rw[if_neg e,if_neg e,List.map_cons,ih]
theorem SY (ρ:aa) (n:Nm) (v:List X):∀h:au,aN ρ (x2 h n v)=gS (aN ρ h) n (aA ρ v)
 | []=>rfl
 | (m,Y)::l=>by
  have ih:=SY ρ n v l
  simp only[aN,List.map_cons,gS,x2,Ow]at ih ⊢
  by_cases e:m=n
  ·rw[if_pos e,if_pos e];rfl
  ·rw[if_neg e,if_neg e,List.map_cons,ih]
theorem o6 (ρ:aa):∀(d:aL) (h:au),aN ρ (ig d h)=aD (bk ρ d) (aN ρ h)
 | [],_=>rfl
 | (n,some v)::d,h=>by
  have ih:=o6 ρ d (x2 h n v)
  simp only[ig,bk,List.map_cons,Option.map_some,aD]at ih ⊢
  rw[ih,SY]
 | (n,none)::d,h=>by
  have ih:=o6 ρ d (xR h n)
  simp only[ig,bk,List.map_cons,Option.map_none,aD]at ih ⊢
  rw[ih,SX]
def bX:ba->Nat->X
 | [],_ => .top
 | (j,v)::l,i=>if Nat.beq j i=true then v else bX l i
theorem je (ρ:aa) (i:Nat):∀t:ba,bP (fm ρ t) i=(bX t i).I ρ
 | []=>rfl
 | (j,v)::l=>by
  have ih:=je ρ i l
  simp only[fm,List.map_cons,bP,bX]at ih ⊢
  by_cases e:j=i
  ·rw[if_pos e,if_pos (by simpa using e)]
  ·rw[if_neg e,if_neg (by simpa using e)];exact ih
def nA (d:Option Tmp) (v:X) (t:ba):ba :=
 match d with
 | some d=>(d,v)::t
 | none=>t
theorem EG (ρ:aa) (d:Option Tmp) (v:X) (t:ba):fm ρ (nA d v t)=gF d (v.I ρ) (fm ρ t):=by cases d<;>rfl
def X.cells:X->List X
 | .agg cs=>cs
 | v=>[v]
def X.one:X->Bool
 | .top | .agg _ | .tup _ | .gd _ _ | .rows _ _ _ | .tk _ _ _ _=>false
 | .k v=>v.oneCell'
 | _=>true
theorem X.one_den (ρ:aa) (x:X) (h:x.one=true):(x.I ρ).one=true:=by
 cases x with
 | sc s=>cases s<;>rfl
 | k v=>exact h
 | gd c x=>cases h
 | top=>cases h
 | agg cs=>cases h
 | tup cs=>cases h
 | rows z n l=>cases h
 | tk _ _ _ _=>cases h
 | cJ t o j=>exact(ρ.ct t o _).2.2
 | _=>rfl
theorem agU {l:List X} (h:l.all X.one=true):b5 l=false:=by
 unfold b5
 split
 ·simp[X.one]at h
 ·simp[X.one]at h
 ·rfl
theorem ak0 {v:AV} (h:v.one=true):v.cells=[v]:=by
 cases v<;>first | rfl | cases h
theorem X.nL (ρ:aa):∀l:List X,l.all X.one=true->(X.af ρ l).all AV.one=true
 | [],_=>rfl
 | x::xs,h=>by
  simp only[List.all_cons,Bool.and_eq_true]at h
  simp only[X.af,List.all_cons,X.one_den ρ x h.1,X.nL ρ xs h.2,Bool.and_self]
theorem X.Ac (ρ:aa) (x:X) (h:x.cells.all X.one=true):(x.I ρ).cells=X.af ρ x.cells:=by
 cases x with
 | gd c x=>simp[X.cells,X.one]at h
 | cJ t o j=>exact ak0 (ρ.ct t o _).2.2
 | _=>rfl
def wo (k:Nat):List (BE×Nat)->List (BE×Nat)
 | []=>[]
 | (c,o)::r=>(c,o+k)::wo k r
theorem Ae (ρ:aa) (k d:Nat):∀aF,choose ρ (wo k aF) (d+k)=choose ρ aF d+k
 | []=>rfl
 | (c,o)::r=>by
  simp only[wo,choose,Ae ρ k d r]
  split<;>rfl
def wW (g:BE->BE) (e:U) (z o:Nat):Nat->List (BE×Nat)->List (BE×Nat)
 | 0,r=>r
 | m+1,r=>wW g e z o m ((g (mkEq e (.lit m)),o+m*z)::r)
theorem J2 {ρ:aa} {g:BE->BE} {v:Bool} (Z:∀b,(g b).I ρ=(v&&b.I ρ)) {e:U} {j:Nat} (G:e.I ρ=j) (z o d:Nat):∀(m:Nat) (r:List (BE×Nat)),
  choose ρ (wW g e z o m r) d=if v=true/\j<m then o+j*z else choose ρ r d
 | 0,r=>by simp[wW]
 | m+1,r=>by
  rw[wW,J2 Z G z o d m]
  simp only[choose,Z,eQ,G,U.I]
  by_cases R:v=true
  ·subst R
   by_cases A:j<m
   ·rw[if_pos ⟨rfl,A⟩,if_pos ⟨rfl,by omega⟩]
   ·rw[if_neg (by simp[A])]
    by_cases E:j=m
    ·subst E;simp
    ·have h3:¬(j<m+1):=by omega
     have h4:((j:Int)==(m:Int))=false:=by
      rw[beq_eq_false_iff_ne];intro h;apply E;exact_mod_cast h
     simp[h3,h4]
  ·have hf:v=false:=by simpa using R
   subst hf;simp
def vo (e:U) (z len:Nat):List (BE×Nat)->Nat->List (BE×Nat)
 | [],d=>wW (fun b=>b) e z d (len-1) []
 | (c,o)::r,d=>wW (mkAnd c) e z o (len-1) ((c,o+(len-1)*z)::vo e z len r d)
theorem Ey {ρ:aa} {e:U} {z len:Nat} {j:Nat} (G:e.I ρ=j) (O:j<len) (d:Nat):∀aF,choose ρ (vo e z len aF d) (d+(len-1)*z)=choose ρ aF d+j*z
 | []=>by
  rw[vo,J2 (v:=true) (fun b=>by simp) G]
  simp only[choose,true_and]
  split
  ·rfl
  ·rw[show len-1=j from by omega]
 | (c,o)::r=>by
  rw[vo,J2 (v:=c.I ρ) (fun b=>by rw[fL]) G]
  simp only[choose,Ey G O d r]
  by_cases H:c.I ρ=true
  ·simp only[H,true_and,if_true]
   split
   ·rfl
   ·rw[show len-1=j from by omega]
  ·simp[H]
def tp:Option Bool->Nat->List X->Nat->Option X
 | some true,z,cs,off=>if Nat.blt 0 z&&Nat.ble (off+z) cs.length then some (.agg ((cs.drop off).take z))else none
 | some false,_,cs,off=>cs[off]?
 | none,_,_,_=>none
theorem y3 {ρ:aa} {b:Option Bool} {z:Nat} {cs:List X} {off:Nat} {v:X} (h:tp b z cs off=some v):jJ b z (X.af ρ cs) off=some (v.I ρ):=by
 unfold tp at h
 split at h
 ·split at h
  ·rename_i H
   simp only[Bool.and_eq_true,Nat.blt_eq,Nat.ble_eq]at H
   cases h
   simp only[jJ,X.f_,X.I,X.Kr,X.xc]
   rw[if_pos ⟨by simpa [Nat.blt_eq]using H.1,H.2⟩]
  ·cases h
 ·simp only[jJ,X.r_,h,Option.map_some]
 ·cases h
def yZ (b:Option Bool) (z:Nat) (cs:List X):List (BE×Nat)->Nat->Option X
 | [],d=>tp b z cs d
 | (c,o)::r,d=>match tp b z cs o,yZ b z cs r d with
  | some x,some y=>X.en c x y
  | _,_=>none
theorem Hz {ρ:aa} {b:Option Bool} {z:Nat} {cs:List X} {d:Nat}:∀{aF:List (BE×Nat)} {v:X},yZ b z cs aF d=some v->jJ b z (X.af ρ cs) (choose ρ aF d)=some (v.I ρ)
 | [],v,h=>y3 h
 | (c,o)::r,v,h=>by
  simp only[yZ]at h
  split at h
  ·rename_i x y A E
   rw[X.B_ _ _ _ h]
   simp only[choose]
   split
   ·exact y3 A
   ·exact Hz E
  ·cases h
def Gh (i:TI) (h:au):X->Option X
 | .ptr n aF d=>match ph h n with
  | some cs=>yZ i.agg i.cells cs aF d
  | none=>none
 | .ip cs aF d=>yZ i.agg i.cells cs aF d
 | _=>none
theorem VX {P:Program} {ρ:aa} {ty:TypeId} {h:au} {x v:X} (R:Gh (cq P ty) h x=some v):oo P (aN ρ h) ty (x.I ρ)=some (v.I ρ):=by
 unfold Gh at R
 split at R
 ·split at R
  ·rename_i cs Z
   simp only[X.I,oo,xV Z,HC]
   exact Hz R
  ·cases R
 ·simp only[X.I,oo]
  exact Hz R
 ·cases R
def tI (cs:List X) (off:Nat) (vs:List X):List X:=cs.take off++(vs++cs.drop (off+vs.length))
theorem Ij (ρ:aa) (cs:List X) (off:Nat) (vs:List X):X.af ρ (tI cs off vs)=fT (X.af ρ cs) off (X.af ρ vs):=by
 simp only[tI,fT,X.gp,X.Kr,X.xc,X.f_]
def IS (z:Nat) (cs ys:List X) (o:Nat):Option (List X):=if Nat.blt 0 z&&(Nat.beq ys.length z&&(Nat.ble (o+z) cs.length&&ys.all X.one))then some (tI cs o ys)else none
theorem aav {ρ:aa} {z:Nat} {cs ys bn:List X} {o:Nat} {m:Nm} (h:IS z cs ys o=some bn):wG z m o (X.af ρ ys) (some (X.af ρ cs))=some [(m,some (X.af ρ bn))]:=by
 unfold IS at h
 split at h
 ·rename_i H
  simp only[Bool.and_eq_true,Nat.ble_eq]at H
  cases h
  simp only[wG,X.f_,Ij]
  rw[if_pos ⟨by simpa [Nat.blt_eq]using H.1,Nat.eq_of_beq_eq_true H.2.1,H.2.2.1,X.nL ρ _ H.2.2.2⟩]
 ·cases h
def IT (z:Nat) (cs ys:List X):List (BE×Nat)->Nat->Option (List X)
 | [],d=>IS z cs ys d
 | (c,o)::r,d=>match IS z cs ys o,IT z cs ys r d with
  | some x,some y=>X.pA c x y
  | _,_=>none
theorem aaw {ρ:aa} {z:Nat} {cs ys:List X} {d:Nat} {m:Nm}:∀{aF:List (BE×Nat)} {bn:List X},IT z cs ys aF d=some bn->wG z m (choose ρ aF d) (X.af ρ ys) (some (X.af ρ cs))=some [(m,some (X.af ρ bn))]
 | [],_,h=>aav h
 | (c,o)::r,v,h=>by
  simp only[IT]at h
  split at h
  ·rename_i x y A E
   rw[X.B8 _ _ _ h]
   simp only[choose]
   split
   ·exact aav A
   ·exact aaw E
  ·cases h
def Qi (i:TI) (h:au):X->List X->Option aL
 | .ptr n aF d,ys=>if ys.all X.one=true then match ph h n with
  | some cs=>match IT i.cells cs ys aF d with
   | some bn=>if b5 bn=true then none else some [(n,some bn)]
   | none=>none
  | none=>none
  else none
 | _,_=>none
theorem aru {P:Program} {ρ:aa} {ty:TypeId} {h:au} {x:X} {ys:List X} {d:aL} (R:Qi (cq P ty) h x ys=some d):ys.all X.one=true/\pV P (aN ρ h) ty (x.I ρ) (X.af ρ ys)=some (bk ρ d):=by
 unfold Qi at R
 split at R
 ·split at R
  ·rename_i gy
   split at R
   ·rename_i cs Z
    split at R
    ·rename_i bn hw
     split at R
     ·cases R
     ·rename_i hr
      cases R
      refine⟨gy,?_⟩
      simp only[X.I,pV,xV Z,bk,List.map_cons,List.map_nil,Option.map_some,cP (ρ:=ρ) (show b5 bn=false by simpa using hr)]
      exact aaw hw
    ·cases R
   ·cases R
  ·cases R
 ·cases R
def gT {an:Type} (B:J) (e n:U) (k:J->T an):T an:=want B (mkNot (mkLt e (.lit 0))) fun B=>want B (mkLt e n) k
theorem lG {an:Type} {ρ:aa} {B:J} {e n:U} {k:J->T an} {a:an} (u:J.ok ρ B) (h:(gT B e n k).aq ρ=some a):∃aS j,J.ok ρ aS/\e.I ρ=(j:Nat)/\(j:Int)<n.I ρ/\(k aS).aq ρ=some a:=by
 unfold gT at h
 obtain⟨fd,bp,A,h⟩:=cW u h
 obtain⟨lw,dO,E,h⟩:=cW bp h
 rw[eu,gW]at A
 rw[gW]at E
 have A:¬(U.I ρ e<U.I ρ (.lit 0)):=fun W=>by rw[decide_eq_true W]at A;cases A
 have E:=of_decide_eq_true E
 simp only[U.I]at A
 exact⟨lw,(e.I ρ).toNat,dO,by omega,by omega,h⟩
def Hr (n:Nm) (aF:List (BE×Nat)) (d:Nat) (e:U) (z len:Nat):X :=
 match e with
 | .lit j => .ptr n (wo (j.toNat*z) aF) (d+j.toNat*z)
 | e => .ptr n (vo e z len aF d) (d+(len-1)*z)
theorem XI {ρ:aa} {n:Nm} {aF:List (BE×Nat)} {d:Nat} {e:U} {z len j:Nat} (G:e.I ρ=j) (O:j<len):(Hr n aF d e z len).I ρ = .ptr n (choose ρ aF d+j*z):=by
 unfold Hr
 split
 ·rename_i i
  simp only[U.I]at G
  simp only[X.I,Ae,G,Int.toNat_natCast]
 ·simp only[X.I,Ey G O]
def M0 (cs:List X) (aF:List (BE×Nat)) (d:Nat) (e:U) (z len:Nat):X :=
 match e with
 | .lit j => .ip cs (wo (j.toNat*z) aF) (d+j.toNat*z)
 | e => .ip cs (vo e z len aF d) (d+(len-1)*z)
theorem agR {ρ:aa} {cs:List X} {aF:List (BE×Nat)} {d:Nat} {e:U} {z len j:Nat} (G:e.I ρ=j) (O:j<len):(M0 cs aF d e z len).I ρ = .ip (X.af ρ cs) (choose ρ aF d+j*z):=by
 unfold M0
 split
 ·rename_i i
  simp only[U.I]at G
  simp only[X.I,Ae,G,Int.toNat_natCast]
 ·simp only[X.I,Ey G O]
def Cd (e:U):Nat->List (List X)->Option (List X)
 | _,[]=>none
 | _,[r]=>some r
 | j,r::rs=>match Cd e (j+1) rs with
  | some y=>X.pA (mkEq e (.lit j)) r y
  | none=>none
theorem Ww {ρ:aa} {e:U}:∀(D:List (List X)) (j t:Nat) (r:List X),e.I ρ=((j+t:Nat):Int)->t<D.length->Cd e j D=some r->(X.aX ρ D)[t]? = some (X.af ρ r)
 | [],j,t,r,_,ht,_=>by simp at ht
 | [a],j,t,r,_,ht,h=>by
  simp only[Cd,Option.some.injEq]at h
  subst h
  obtain rfl:t=0:=by simpa using ht
  rfl
 | a::b::rs,j,t,r,G,ht,h=>by
  simp only[Cd]at h
  split at h
  ·rename_i y hy
   rw[X.B8 _ _ _ h]
   cases t with
   | zero =>
    have H:(mkEq e (.lit j)).I ρ=true:=by rw[eQ,G];simp[U.I]
    rw[if_pos H];rfl
   | succ t =>
    have H:¬(mkEq e (.lit j)).I ρ=true:=by rw[eQ,G];simp only[U.I,beq_iff_eq];omega
    rw[if_neg H]
    simp only[X.aX,List.getElem?_cons_succ]
    have:=Ww (b::rs) (j+1) t y (by rw[G];congr 1;omega) (by simpa using ht) hy
    simpa only[X.aX]using this
  ·cases h
def rowAt (e:U) (D:List (List X)):Option (List X) :=
 match e with
 | .lit j=>D[j.toNat]?
 | e=>Cd e 0 D
theorem aqc {ρ:aa} {e:U} {D:List (List X)} {j:Nat} {r:List X} (G:e.I ρ=j) (O:j<D.length) (h:rowAt e D=some r):(X.aX ρ D)[j]? = some (X.af ρ r):=by
 unfold rowAt at h
 split at h
 ·rename_i i
  simp only[U.I]at G
  rw[G,Int.toNat_natCast]at h
  rw[X.xa,h];rfl
 ·exact Ww D 0 j r (by rw[G];simp) O h
def RL.gu (B:J):RL->U->Option (List Sc)
 | .var l ks,j=>some (qi l j 0 ks)
 | .one r,_=>some r
 | .app n a b,j=>match red B (mkLt j n)with
  | .lit true=>a.gu B j
  | .lit false=>b.gu B (mkSub j n)
  | c=>match a.gu B j,b.gu B (mkSub j n)with
   | some x,some y=>nb c x y
   | _,_=>none
 | .drop n a,j=>a.gu B (mkAdd j n)
 | .eL i r a,j=>match red B (mkEq j i)with
  | .lit true=>some r
  | .lit false=>a.gu B j
  | c=>match a.gu B j with
   | some y=>nb c r y
   | none=>none
 | .ite c a b,j=>match red B c with
  | .lit true=>a.gu B j
  | .lit false=>b.gu B j
  | c=>match a.gu B j,b.gu B j with
   | some x,some y=>nb c x y
   | _,_=>none
theorem RL.k_ {ρ:aa} {B:J} (u:J.ok ρ B):∀{l:RL} {j:U} {r:List Sc},l.gu B j=some r->b' ρ r=l.row ρ (j.I ρ)
 | .var l ks,j,r,h=>by
  simp only[RL.gu,Option.some.injEq]at h
  subst h
  exact z_ ρ l j 0 ks
 | .one s,j,r,h=>by
  simp only[RL.gu,Option.some.injEq]at h
  subst h;rfl
 | .app n a b,j,r,h=>by
  simp only[RL.gu]at h
  have H:=(c9 u (mkLt j n)).trans (gW ρ j n)
  simp only[RL.row]
  split at h
  ·rename_i hd
   rw[hd]at H
   have:=of_decide_eq_true (H.symm)
   rw[if_pos this]
   exact RL.k_ u h
  ·rename_i hd
   rw[hd]at H
   have:=of_decide_eq_false (H.symm)
   rw[if_neg this,<-nc]
   exact RL.k_ u h
  ·split at h
   ·rename_i x y A E
    rw[vC h,RL.k_ u A,RL.k_ u E,nc,H]
    by_cases W:U.I ρ j<U.I ρ n
    ·rw[if_pos (decide_eq_true W),if_pos W]
    ·rw[if_neg (by simpa using W),if_neg W]
   ·cases h
 | .drop n a,j,r,h=>by
  simp only[RL.gu]at h
  simp only[RL.row]
  rw[<-fe]
  exact RL.k_ u h
 | .eL i q a,j,r,h=>by
  simp only[RL.gu]at h
  have H:=(c9 u (mkEq j i)).trans (eQ ρ j i)
  simp only[RL.row]
  split at h
  ·rename_i hd
   rw[hd]at H
   cases h
   rw[if_pos (by simpa [BE.I]using H.symm)]
  ·rename_i hd
   rw[hd]at H
   rw[if_neg (by simpa [BE.I]using H.symm)]
   exact RL.k_ u h
  ·split at h
   ·rename_i y E
    rw[vC h,RL.k_ u E,H]
    by_cases W:U.I ρ j=U.I ρ i
    ·rw[if_pos (by simpa using W),if_pos W]
    ·rw[if_neg (by simpa using W),if_neg W]
   ·cases h
 | .ite c a b,j,r,h=>by
  simp only[RL.gu]at h
  simp only[RL.row]
  have H:=c9 u c
  split at h
  ·rename_i hd
   rw[hd]at H
   rw[if_pos (show BE.I ρ c=true from H.symm)]
   exact RL.k_ u h
  ·rename_i hd
   rw[hd]at H
   rw[if_neg (by rw[<-H];simp[BE.I])]
   exact RL.k_ u h
  ·split at h
   ·rename_i x y A E
    rw[vC h,RL.k_ u A,RL.k_ u E,H]
   ·cases h
def iu (h:au) (n:Nm):Bool:=(bg h n).isSome
theorem jD {ρ:aa} {h:au} {n:Nm} (u:iu h n=true):(ae (aN ρ h) n).isSome=true:=by
 rw[cG];unfold iu at u;simpa using u
def eI {an:Type}:Option an->T an
 | some a => .ret a
 | none=>(.fail [])
theorem e5 {an:Type} {ρ:aa} {o:Option an} {a:an} (h:(eI o).aq ρ=some a):o=some a:=by
 cases o with
 | none=>cases h
 | some b=>cases h;rfl
def Hj (B:J) (e:U):U:=match fH B e with
 | ⟨some l,some h⟩=>if l=h then .lit l else e
 | _=>e
theorem Xv {ρ:aa} {B:J} (u:J.ok ρ B) (e:U):(Hj B e).I ρ=e.I ρ:=by
 unfold Hj
 split
 ·rename_i l h R
  split
  ·rename_i G
   have:=gU u e
   rw[R]at this
   have A:=this.1 l rfl
   have E:=this.2 h rfl
   simp only[U.I];omega
  ·rfl
 ·rfl
theorem eH {ρ:aa} {a b:U} (h:(mkNot (mkLt a b)).I ρ=true):¬a.I ρ<b.I ρ:=fun W=>by
 rw[eu,gW,decide_eq_true W]at h;cases h
def qh (z t:Nat) (j:U):List X:=(List.range z).map fun k => .cJ t k j
theorem JT (ρ:aa) (z t:Nat) (j:U):X.af ρ (qh z t j)=(List.range z).map fun k=>(ρ.ct t k (j.I ρ).toNat).1:=by
 simp only[qh,X.l5,List.map_map];rfl
theorem Pz {ρ:aa} {z:Nat} {m:U} {t j:Nat} (O:(j:Int)<m.I ρ):(bB ρ z m t)[j]? = some ((List.range z).map fun k=>(ρ.ct t k j).1):=by
 unfold bB
 rw[List.getElem?_map,List.getElem?_range (by omega)]
 rfl
theorem we {ρ:aa} {z:Nat} {m:U} {t:Nat}:(bB ρ z m t).length=(m.I ρ).toNat:=by
 unfold bB;rw[List.length_map,List.length_range]
def HR (B:J) (e m:U):List (List X)->Nat->Option (List X)
 | [],_=>none
 | r::D,q=>match red B (mkEq e (mkAdd m (.lit q)))with
  | .lit true=>some r
  | _=>HR B e m D (q+1)
theorem Ya {ρ:aa} {B:J} (u:J.ok ρ B) {e m:U} {r:List X}:∀{D:List (List X)} {q:Nat},HR B e m D q=some r->∃p:Nat,D[p]? = some r/\e.I ρ=m.I ρ+((q+p:Nat):Int)
 | [],_,h=>by cases h
 | r'::D,q,h=>by
  simp only[HR]at h
  split at h
  ·rename_i hr
   cases h
   have A:=c9 u (mkEq e (mkAdd m (.lit q)))
   rw[hr,eQ]at A
   have A:(e.I ρ==(mkAdd m (.lit (q:Int))).I ρ)=true:=A.symm
   rw[fe,beq_iff_eq]at A
   exact⟨0,rfl,A⟩
  ·obtain⟨p,A,E⟩:=Ya u h
   exact⟨p+1,A,by rw[E];congr 2;omega⟩
def MU (i:TI) (h:au) (B:J) (x y:X):T X :=
 match x,y with
 | .ptr n aF d,.sc (.i _ e)=>match i.arr with
  | some (len,z)=>if iu h n=true then gT B e (.lit len) fun _ => .ret (Hr n aF d (Hj B e) z len)else(.fail [])
  | none=>(.fail [])
 | .ip cs aF d,.sc (.i _ e)=>match i.arr with
  | some (len,z)=>gT B e (.lit len) fun _ => .ret (M0 cs aF d (Hj B e) z len)
  | none=>(.fail [])
 | .sl n z off len _,.sc (.i _ e)=>match i.sl with
  | some (_,z')=>if(Nat.beq z' z&&iu h n)=true then gT B e (.lit len) fun _ => .ret (Hr n [] off e z len)else(.fail [])
  | none=>(.fail [])
 | .ro z D _,.sc (.i _ e)=>match i.sl with
  | some (_,z')=>if Nat.beq z' z=true then gT B e (.lit D.length) fun _=>eI ((rowAt e D).map fun r => .ip r [] 0)else(.fail [])
  | none=>(.fail [])
 | .rl z n l _,.sc (.i _ e)=>match i.sl with
  | some (_,z')=>if Nat.beq z' z=true then gT B e n fun B=>eI ((l.gu B e).map fun r => .ip (Cm r) [] 0)else(.fail [])
  | none=>(.fail [])
 | .rn z n l ks _,.sc (.i _ e)=>match i.sl with
  | some (_,z')=>if Nat.beq z' z=true then gT B e n fun _ => .ret (.ip (uy l e 0 ks) [] 0)else(.fail [])
  | none=>(.fail [])
 | .tq z m t D _,.sc (.i _ e)=>match i.sl with
  | some (_,z')=>if Nat.beq z' z=true then want B (mkNot (mkLt m (.lit 0))) fun B=>(match HR B e m D 0 with
   | some r => .ret (.ip r [] 0)
   | none=>gT B e m fun _ => .ret (.ip (qh z t e) [] 0))else(.fail [])
  | none=>(.fail [])
 | _,_=>(.fail [])
theorem mD {ρ:aa} {n:U} {l:RL} {j:Nat} (O:(j:Int)<n.I ρ):(aV ρ n l)[j]? = some (l.row ρ j):=by
 unfold aV
 rw[List.getElem?_map,List.getElem?_range (by omega)]
 rfl
theorem Yg {ρ:aa} {n:U} {l:Nat} {ks:List Nk} {j:Nat} (O:(j:Int)<n.I ρ):(fQ ρ n l ks)[j]? = some (dL ρ l 0 ks j):=by
 unfold fQ
 rw[List.getElem?_map,List.getElem?_range (by omega)]
 rfl
theorem agH {P:Program} {ρ:aa} {ty:TypeId} {h:au} {B:J} {x y v:X} (u:J.ok ρ B) (R:(MU (cq P ty) h B x y).aq ρ=some v):jy P (aN ρ h) ty (x.I ρ) (y.I ρ)=some (v.I ρ):=by
 unfold MU at R
 split at R
 ·split at R
  ·rename_i n aF d k e len z ha
   split at R
   ·rename_i ho
    obtain⟨aS,j,_,G,O,R⟩:=lG u R
    cases R
    simp only[U.I]at O
    rw[XI ((Xv u _).trans G) (by omega)]
    have dy:er P ty=some (len,z):=ha
    simp only[X.I,Sc.I,jy,dy,FQ,G,jD ho,Int.toNat_natCast]
    rw[if_pos ⟨trivial,by omega,by omega⟩]
   ·cases R
  ·cases R
 ·split at R
  ·rename_i cs aF d k e len z ha
   obtain⟨aS,j,_,G,O,R⟩:=lG u R
   cases R
   simp only[U.I]at O
   rw[agR ((Xv u _).trans G) (by omega)]
   have dy:er P ty=some (len,z):=ha
   simp only[X.I,Sc.I,jy,dy,MS,G,Int.toNat_natCast]
   rw[if_pos ⟨by omega,by omega⟩]
  ·cases R
 ·split at R
  ·rename_i n z off len own k e ee z' ha
   split at R
   ·rename_i ho
    simp only[Bool.and_eq_true]at ho
    have hz:=Nat.eq_of_beq_eq_true ho.1
    subst hz
    obtain⟨aS,j,_,G,O,R⟩:=lG u R
    cases R
    simp only[U.I]at O
    rw[XI G (by omega)]
    have dy:bE P ty=some (ee,z'):=ha
    simp only[X.I,Sc.I,jy,dy,FR,G,jD ho.2,Int.toNat_natCast,choose]
    rw[if_pos ⟨trivial,trivial,by omega,by omega⟩]
   ·cases R
  ·cases R
 ·split at R
  ·rename_i z D full k e ee z' ha
   split at R
   ·rename_i ho
    have hz:=Nat.eq_of_beq_eq_true ho
    subst hz
    obtain⟨aS,j,_,G,O,R⟩:=lG u R
    obtain⟨r,hr,rfl⟩:=Option.map_eq_some_iff.1 (e5 R)
    simp only[U.I]at O
    have hM:=aqc (ρ:=ρ) G (by omega) hr
    have dy:bE P ty=some (ee,z'):=ha
    simp only[X.I,Sc.I,jy,dy,vn,G,Int.toNat_natCast,hM,x_,choose]
    rw[if_pos ⟨trivial,by omega⟩]
   ·cases R
  ·cases R
 ·split at R
  ·rename_i z n l full k e ee z' ha
   split at R
   ·rename_i ho
    have hz:=Nat.eq_of_beq_eq_true ho
    subst hz
    obtain⟨aS,j,aO,G,O,R⟩:=lG u R
    obtain⟨r,hr,rfl⟩:=Option.map_eq_some_iff.1 (e5 R)
    have hM:=RL.k_ (ρ:=ρ) aO hr
    rw[G]at hM
    have dy:bE P ty=some (ee,z'):=ha
    simp only[X.I,Sc.I,jy,dy,vn,G,Int.toNat_natCast,mD O,x_,choose,OJ,hM]
    rw[if_pos ⟨trivial,by omega⟩]
   ·cases R
  ·cases R
 ·split at R
  ·rename_i z n l ks full k e ee z' ha
   split at R
   ·rename_i ho
    have hz:=Nat.eq_of_beq_eq_true ho
    subst hz
    obtain⟨aS,j,aO,G,O,R⟩:=lG u R
    cases R
    have dy:bE P ty=some (ee,z'):=ha
    simp only[X.I,Sc.I,jy,dy,vn,G,Int.toNat_natCast,Yg O,x_,choose,JU]
    rw[if_pos ⟨trivial,by omega⟩]
   ·cases R
  ·cases R
 ·split at R
  ·rename_i z m t D full k e _ ee z' ha
   split at R
   ·rename_i ho
    have hz:=Nat.eq_of_beq_eq_true ho
    subst hz
    obtain⟨fd,bp,A,R⟩:=cW u R
    have A:=eH A
    simp only[U.I]at A
    have dy:bE P ty=some (ee,z'):=ha
    split at R
    ·rename_i r hr
     cases R
     obtain⟨p,hp,G⟩:=Ya bp hr
     have Z:(bB ρ z' m t++X.aX ρ D)[(e.I ρ).toNat]? = some (X.af ρ r):=by
      rw[List.getElem?_append_right (by rw[we];omega),we,show(e.I ρ).toNat-(m.I ρ).toNat=p from by omega,X.xa,hp];rfl
     simp only[X.I,Sc.I,jy,dy,vn,Z,x_,choose]
     rw[if_pos ⟨trivial,by omega⟩]
    ·obtain⟨aS,j,aO,G,O,R⟩:=lG bp R
     cases R
     have Z:(bB ρ z' m t++X.aX ρ D)[j]? = some ((List.range z').map fun k=>(ρ.ct t k j).1):=by
      rw[List.getElem?_append_left (by rw[we];omega)]
      exact Pz O
     simp only[X.I,Sc.I,jy,dy,vn,G,Int.toNat_natCast,Z,x_,choose,JT]
     rw[if_pos ⟨trivial,by omega⟩]
   ·cases R
  ·cases R
 ·cases R
def Ln (i:TI) (h:au) (f:Nat) (x:X):Option X :=
 match i.rc with
 | some l=>match l[f]? with
  | some (o,_)=>match x with
   | .ptr n aF d=>if iu h n=true then some (.ptr n (wo o aF) (d+o))else none
   | .ip cs aF d=>some (.ip cs (wo o aF) (d+o))
   | .du n z j p=>if iu h n=true then some (.du n z j (p+o))else none
   | _=>none
  | none=>none
 | none=>none
theorem aeX {P:Program} {ρ:aa} {ty:TypeId} {h:au} {f:Nat} {x v:X} (R:Ln (cq P ty) h f x=some v):AK P (aN ρ h) ty f (x.I ρ)=some (v.I ρ):=by
 unfold Ln at R
 split at R
 ·rename_i l M
  have bW:jb P ty=some l:=M
  split at R
  ·rename_i o z hf
   simp only[AK,bW,hf,Lm]
   split at R
   ·split at R
    ·rename_i ho
     cases R
     simp only[X.I,jD ho,if_true,Ae]
    ·cases R
   ·cases R
    simp only[X.I,Ae]
   ·split at R
    ·rename_i ho
     cases R
     simp only[X.I,jD ho,if_true,Nat.add_assoc]
    ·cases R
   ·cases R
  ·cases R
 ·cases R
end Go.Proofs.Xw
namespace Go.Proofs.Xw
open Go Go.Proofs.Aw
theorem Wy (a b:Nat):Nat.beq a b=(a==b):=by rw[Bool.eq_iff_iff];simp
def Lo (i:TI) (f:Nat):X->Option X
 | .agg cs=>match i.rc,i.XL with
  | some l,some bs=>match l[f]?,bs[f]? with
   | some (o,z),some b=>tp b z cs o
   | _,_=>none
  | _,_=>none
 | _=>none
theorem aeZ {P:Program} {ρ:aa} {ty:TypeId} {f:Nat} {x v:X} (R:Lo (cq P ty) f x=some v):AN P ty f (x.I ρ)=some (v.I ρ):=by
 unfold Lo at R
 split at R
 ·split at R
  ·rename_i cs l bs M hb
   have bW:jb P ty=some l:=M
   have f0:CB P ty=some bs:=hb
   split at R
   ·rename_i o z b A E
    simp only[X.I,AN,bW,f0,A,E,E6]
    exact y3 R
   ·cases R
  ·cases R
 ·cases R
def GA:TE->U->U
 | .lit s,.lit j => .lit (((s[j.toNat]?).getD 0).toNat)
 | t,j => .fC t j
theorem Wi (ρ:aa) (t:TE) (j:U):(GA t j).I ρ=(((t.I ρ)[(j.I ρ).toNat]?).getD 0).toNat:=by
 unfold GA;split<;>simp[U.I,TE.I]
def MX (i:TI) (B:J) (x y:X):T X :=
 match x,y with
 | .agg cs,.sc (.i _ e)=>match i.arr with
  | some (len,z)=>gT B e (.lit len) fun _=>eI (match e with
   | .lit j=>tp i.rV z cs (j.toNat*z)
   | e=>yZ i.rV z cs (vo e z len [] 0) (0+(len-1)*z))
  | none=>(.fail [])
 | .sc (.s t),.sc (.i _ e)=>if i.str=true then gT B e (s7 t) fun _ => .ret (.sc (.i .u8 (GA t e)))else(.fail [])
 | _,_=>(.fail [])
theorem agM {P:Program} {ρ:aa} {ty:TypeId} {B:J} {x y v:X} (u:J.ok ρ B) (R:(MX (cq P ty) B x y).aq ρ=some v):yb P ty (x.I ρ) (y.I ρ)=some (v.I ρ):=by
 unfold MX at R
 split at R
 ·split at R
  ·rename_i cs k e len z ha
   obtain⟨aS,j,_,G,O,R⟩:=lG u R
   have R:=e5 R
   simp only[U.I]at O
   have dy:er P ty=some (len,z):=ha
   simp only[X.I,Sc.I,yb,dy,G,Int.toNat_natCast]
   rw[if_pos ⟨by omega,by omega⟩]
   split at R
   ·rename_i at6
    simp only[U.I]at G
    have:=y3 (ρ:=ρ) R
    rw[G,Int.toNat_natCast]at this
    exact this
   ·have:=Hz (ρ:=ρ) R
    rw[Ey G (by omega),choose,Nat.zero_add]at this
    exact this
  ·cases R
 ·split at R
  ·rename_i t k e hs
   have cu:nt P ty=true:=hs
   obtain⟨aS,j,_,G,O,R⟩:=lG u R
   cases R
   rw[yF]at O
   simp only[X.I,Sc.I,yb,cu,G,Int.toNat_natCast,Wi]
   rw[if_pos ⟨trivial,by omega⟩]
   have aQ:j<(t.I ρ).size:=by omega
   have:(t.I ρ)[j]? = some ((t.I ρ)[j]'aQ):=getElem?_pos (t.I ρ) j aQ
   rw[this];rfl
  ·cases R
 ·cases R
def KJ {an:Type} (e:U) (k:J->Nat->T an):Nat->J->T an
 | 0,B=>want B (mkEq e (.lit 0)) fun B=>k B 0
 | m+1,B=>part B (mkEq e (.lit (m+1:Nat))) (fun B=>k B (m+1)) (fun B=>KJ e k m B)
theorem Y5 {an:Type} {ρ:aa} {e:U} {k:J->Nat->T an} {a:an}:∀(n:Nat) {B:J},J.ok ρ B->(KJ e k n B).aq ρ=some a->∃aS j,J.ok ρ aS/\j<=n/\e.I ρ=(j:Nat)/\(k aS j).aq ρ=some a
 | 0,B,u,h=>by
  obtain⟨aS,aO,A,h⟩:=cW u h
  rw[eQ,beq_iff_eq]at A
  exact⟨aS,0,aO,Nat.le_refl _,A,h⟩
 | m+1,B,u,h=>by
  obtain⟨aS,aO,⟨A,h⟩ | ⟨_,h⟩⟩:=Y7 u h
  ·rw[eQ,beq_iff_eq]at A
   exact⟨aS,m+1,aO,Nat.le_refl _,A,h⟩
  ·obtain⟨atP,j,E,h3,h4,h5⟩:=Y5 m aO h
   exact⟨atP,j,E,by omega,h4,h5⟩
def sg {an:Type} (e:U) (n:Nat) (B:J) (k:J->Nat->T an):T an :=
 match e with
 | .lit j=>if decide (0<=j)&&Nat.ble j.toNat n then k B j.toNat else(.fail [])
 | e=>KJ e k n B
theorem zi {an:Type} {ρ:aa} {e:U} {k:J->Nat->T an} {a:an} {n:Nat} {B:J} (u:J.ok ρ B) (h:(sg e n B k).aq ρ=some a):∃aS j,J.ok ρ aS/\j<=n/\e.I ρ=(j:Nat)/\(k aS j).aq ρ=some a:=by
 unfold sg at h
 split at h
 ·split at h
  ·rename_i j H
   simp only[Bool.and_eq_true,decide_eq_true_eq,Nat.ble_eq]at H
   exact⟨B,j.toNat,u,H.2,by simp only[U.I];omega,h⟩
  ·cases h
 ·exact Y5 n u h
def nQ:Option X->U->Option U
 | none,d=>some d
 | some (.sc (.i _ e)),_=>some e
 | _,_=>none
theorem kS {ρ:aa} {x:Option X} {d e:U} {d8:Nat} (h:nQ x d=some e) (hd:d.I ρ=d8) {j:Nat} (G:e.I ρ=j):lU d8 (x.map (X.I ρ))=some j:=by
 unfold nQ at h
 split at h
 ·cases h
  simp only[Option.map_none,lU,Option.some.injEq];omega
 ·cases h
  simp only[Option.map_some,X.I,Sc.I,lU,G]
  rw[if_pos (by omega),Int.toNat_natCast]
 ·cases h
def p5 (i:TI):X->U
 | .ro _ D _ => .lit D.length
 | .rl _ n _ _=>n
 | .sl _ _ _ len _ => .lit len
 | .ptr _ _ _=>match i.arr with | some (len,_) => .lit len | none => .lit 0
 | .sc (.s t)=>s7 t
 | _ => .lit 0
def XH (n:Nm) (z l k:Nat):List (BE×Nat)->Nat->Option X
 | [],d=>some (.sl n z (d+l*z) k false)
 | _,_=>none
def P8 (i:TI) (h:au) (B:J) (x:X) (lo hi:U) (hn:Bool):T X :=
 match x with
 | .ro z D full=>match i.sl with
  | some (_,z')=>if Nat.beq z' z=true then sg hi D.length B fun B W=>sg lo W B fun _ l => .ret (.ro z ((D.take W).drop l) (full&&Nat.beq W D.length))else(.fail [])
  | none=>(.fail [])
 | .rl z n l full=>match i.sl with
  | some (_,z')=>if Nat.beq z' z=true then
    want B (mkNot (mkLt lo (.lit 0))) fun B=>want B (mkNot (mkLt (mkSub hi lo) (.lit 0))) fun B=>want B (mkNot (mkLt n hi)) fun _ =>
     .ret (.rl z (mkSub hi lo) (match lo with | .lit 0=>l | lo => .drop lo l) (full&&hn))
   else(.fail [])
  | none=>(.fail [])
 | .sl n z off len own=>match i.sl with
  | some (_,z')=>if(Nat.beq z' z&&iu h n)=true then sg hi len B fun B W=>sg lo W B fun _ l => .ret (.sl n z (off+l*z) (W-l) own)else(.fail [])
  | none=>(.fail [])
 | .ptr n aF d=>match i.arr with
  | some (len,z)=>if iu h n=true then sg hi len B fun B W=>sg lo W B fun _ l=>eI (XH n z l (W-l) aF d)else(.fail [])
  | none=>(.fail [])
 | .sc (.s t)=>if i.str=true then
   want B (mkNot (mkLt lo (.lit 0))) fun B=>want B (mkNot (mkLt hi lo)) fun B=>want B (mkNot (mkLt (s7 t) hi)) fun _ =>
    .ret (.sc (.s (if(lo.beq (.lit 0)&&hi.beq (s7 t))=true then t else .sub t lo hi)))
  else(.fail [])
 | .k (.slice none 0 0)=>match i.sl with
  | some _=>want B (mkEq lo (.lit 0)) fun B=>want B (mkEq hi (.lit 0)) fun _ => .ret (.k (.slice none 0 0))
  | none=>(.fail [])
 | _=>(.fail [])
theorem aqp {ρ:aa} {n hi lo:U} {l:RL} {a b:Nat} (A:lo.I ρ=a) (E:hi.I ρ=b) (h3:(b:Int)<=n.I ρ) (xK:a<=b) (m:RL) (hm:∀j:Nat,m.row ρ j=l.row ρ ((j+a:Nat):Int)) :
  aV ρ (mkSub hi lo) m=((aV ρ n l).take b).drop a:=by
 unfold aV
 apply List.ext_getElem?
 intro j
 rw[nc,A,E,List.getElem?_drop,List.getElem?_take,List.getElem?_map,List.getElem?_map]
 by_cases O:j<b-a
 ·rw[List.getElem?_range (by omega),if_pos (by omega),List.getElem?_range (by omega)]
  simp only[Option.map_some,Option.some.injEq]
  rw[hm j,Nat.add_comm]
 ·rw[List.getElem?_eq_none (by simp;omega)]
  by_cases Mb:a+j<b
  ·omega
  ·rw[if_neg Mb];rfl
theorem HQ {C:Ctx} {z:Nat} {D:List (List AV)} {f f':Bool} (hf:f'=true->f=true) {Y:Value} (h:aj C (.ro z D f) Y):aj C (.ro z D f') Y:=by
 obtain⟨ab,cap,A,E,h3,h4⟩:=hk.1 h
 exact hk.2 ⟨ab,cap,A,E,fun W=>h3 (hf W),h4⟩
def bR (a b:AV):Prop:=∀(C:Ctx) (Y:Value),aj C b Y->aj C a Y
theorem bR.refl (a:AV):bR a a:=fun _ _ h=>h
theorem bR.top (b:AV):bR .top b:=fun _ _ _=>by simp only[aj]
theorem bR.of_eq {a b:AV} (h:a=b):bR a b:=by subst h;exact bR.refl a
theorem aq6 {P:Program} {ρ:aa} {ty:TypeId} {h:au} {B:J} {x v:X} {lo hi:Option X} {l r:U} (u:J.ok ρ B) (M:nQ lo (.lit 0)=some l) (hr:nQ hi (p5 (cq P ty) x)=some r)
  (R:(P8 (cq P ty) h B x l r hi.isNone).aq ρ=some v):∃w,pT P (aN ρ h) ty (x.I ρ) (lo.map (X.I ρ)) (hi.map (X.I ρ)) none=some w/\bR (v.I ρ) w:=by
 unfold P8 at R
 simp only[pT]
 split at R
 ·split at R
  ·rename_i z D full _ ee z' ha
   have dy:bE P ty=some (ee,z'):=ha
   split at R
   ·rename_i hz
    have hz:=Nat.eq_of_beq_eq_true hz
    subst hz
    obtain⟨fd,b,bp,hb,iM,R⟩:=zi u R
    obtain⟨lw,a,dO,A8,iJ,R⟩:=zi bp R
    cases R
    have e1:=kS (ρ:=ρ) M (d8:=0) (by simp[U.I]) iJ
    have e2:=kS (ρ:=ρ) hr (d8:=kM P ty ((X.ro z' D full).I ρ)) (by simp[U.I,p5,X.I,kM,X.ef]) iM
    rw[e1,e2]
    have hlen:(X.aX ρ D).length=D.length:=by simp[X.ef]
    simp only[rE,X.I,dy,hlen]
    rw[if_pos ⟨trivial,A8,hb⟩]
    refine⟨_,rfl,bR.of_eq ?_⟩
    have LZ:(Nat.beq b D.length)=(b==D.length):=Wy _ _
    simp only[X.ef,List.map_drop,List.map_take,LZ]
   ·cases R
  ·cases R
 ·split at R
  ·rename_i z n rl full _ ee z' ha
   have dy:bE P ty=some (ee,z'):=ha
   split at R
   ·rename_i hz
    have hz:=Nat.eq_of_beq_eq_true hz
    subst hz
    obtain⟨fd,bp,c1,R⟩:=cW u R
    obtain⟨lw,dO,c2,R⟩:=cW bp R
    obtain⟨zJ,qC,c3,R⟩:=cW dO R
    cases R
    have c1:=eH c1
    have c2:=eH c2
    have c3:=eH c3
    rw[nc]at c2
    simp only[U.I]at c1 c2
    obtain⟨a,iJ⟩:∃a:Nat,l.I ρ=a:=⟨(l.I ρ).toNat,by omega⟩
    obtain⟨b,iM⟩:∃b:Nat,r.I ρ=b:=⟨(r.I ρ).toNat,by omega⟩
    have hlen:(aV ρ n rl).length=(n.I ρ).toNat:=by simp[aV]
    have e1:=kS (ρ:=ρ) M (d8:=0) (by simp[U.I]) iJ
    have e2:=kS (ρ:=ρ) hr (d8:=kM P ty ((X.rl z' n rl full).I ρ)) (by simp only[p5,X.I,kM,hlen];omega) iM
    rw[e1,e2]
    simp only[rE,X.I,dy,hlen]
    rw[if_pos ⟨trivial,by omega,by omega⟩]
    refine⟨_,rfl,?_⟩
    rw[aqp (n:=n) (l:=rl) iJ iM (by omega) (by omega) _ (fun j => ?_)]
    ·intro C Y hu
     refine HQ (fun hf => ?_) hu
     simp only[Bool.and_eq_true]at hf ⊢
     refine⟨hf.1,?_⟩
     cases hi with
     | some y=>simp at hf
     | none =>
      simp only[nQ,p5,Option.some.injEq]at hr
      subst hr
      simp only[beq_iff_eq];omega
    ·split
     ·simp only[U.I]at iJ
      rw[show j+a=j from by omega]
     ·simp only[RL.row,iJ]
      congr 1
   ·cases R
  ·cases R
 ·split at R
  ·rename_i n z off len own _ ee z' ha
   have dy:bE P ty=some (ee,z'):=ha
   split at R
   ·rename_i hz
    simp only[Bool.and_eq_true]at hz
    have BH:=Nat.eq_of_beq_eq_true hz.1
    subst BH
    obtain⟨fd,b,bp,hb,iM,R⟩:=zi u R
    obtain⟨lw,a,dO,A8,iJ,R⟩:=zi bp R
    cases R
    have e1:=kS (ρ:=ρ) M (d8:=0) (by simp[U.I]) iJ
    have e2:=kS (ρ:=ρ) hr (d8:=kM P ty ((X.sl n z' off len own).I ρ)) (by simp[U.I,p5,X.I,kM]) iM
    rw[e1,e2]
    simp only[rE,X.I,dy]
    rw[if_pos ⟨trivial,jD hz.2,A8,hb⟩]
    exact⟨_,rfl,bR.refl _⟩
   ·cases R
  ·cases R
 ·split at R
  ·rename_i n aF d _ len z ha
   have dy:er P ty=some (len,z):=ha
   split at R
   ·rename_i hz
    obtain⟨fd,b,bp,hb,iM,R⟩:=zi u R
    obtain⟨lw,a,dO,A8,iJ,R⟩:=zi bp R
    have R:=e5 R
    unfold XH at R
    split at R
    ·cases R
     have e1:=kS (ρ:=ρ) M (d8:=0) (by simp[U.I]) iJ
     have e2:=kS (ρ:=ρ) hr (d8:=kM P ty ((X.ptr n [] d).I ρ)) (by simp[U.I,p5,X.I,kM,dy,ha]) iM
     rw[e1,e2]
     simp only[rE,X.I,dy,choose]
     rw[if_pos ⟨jD hz,A8,hb⟩]
     exact⟨_,rfl,bR.refl _⟩
    ·cases R
   ·cases R
  ·cases R
 ·split at R
  ·rename_i t hs
   have cu:nt P ty=true:=hs
   obtain⟨fd,bp,c1,R⟩:=cW u R
   obtain⟨lw,dO,c2,R⟩:=cW bp R
   obtain⟨zJ,qC,c3,R⟩:=cW dO R
   cases R
   have c1:=eH c1
   have c2:=eH c2
   have c3:=eH c3
   rw[yF]at c3
   simp only[U.I]at c1
   obtain⟨a,iJ⟩:∃a:Nat,l.I ρ=a:=⟨(l.I ρ).toNat,by omega⟩
   obtain⟨b,iM⟩:∃b:Nat,r.I ρ=b:=⟨(r.I ρ).toNat,by omega⟩
   have e1:=kS (ρ:=ρ) M (d8:=0) (by simp[U.I]) iJ
   have e2:=kS (ρ:=ρ) hr (d8:=kM P ty ((X.sc (.s t)).I ρ)) (by simp only[p5,X.I,Sc.I,kM,yF]) iM
   rw[e1,e2]
   simp only[rE,X.I,Sc.I,cu]
   rw[if_pos ⟨trivial,by omega,by omega⟩]
   refine⟨_,rfl,bR.of_eq ?_⟩
   split
   ·rename_i H
    simp only[Bool.and_eq_true]at H
    have A:=U.beq_eq _ _ H.1
    have E:=U.beq_eq _ _ H.2
    subst A E
    rw[yF]at iM
    simp only[U.I]at iJ
    have Fm:a=0:=by omega
    have n4:b=(t.I ρ).size:=by omega
    rw[Fm,n4,ByteArray.extract_zero_size]
   ·simp only[TE.I,iJ,iM,Int.toNat_natCast]
  ·cases R
 ·split at R
  ·rename_i TP ha
   have dy:bE P ty=some TP:=ha
   obtain⟨fd,bp,c1,R⟩:=cW u R
   obtain⟨lw,dO,c2,R⟩:=cW bp R
   cases R
   rw[eQ]at c1 c2
   have c1:l.I ρ=(0:Nat):=by simpa [U.I]using c1
   have c2:r.I ρ=(0:Nat):=by simpa [U.I]using c2
   have e1:=kS (ρ:=ρ) M (d8:=0) (by simp[U.I]) c1
   have e2:=kS (ρ:=ρ) hr (d8:=kM P ty ((X.k (.slice none 0 0)).I ρ)) (by simp[p5,X.I,kM,U.I]) c2
   rw[e1,e2]
   simp only[rE,X.I,dy]
   exact⟨_,rfl,bR.refl _⟩
  ·cases R
 ·cases R
def BY:X->Option Nat
 | .sc (.i _ (.lit n))=>if 0<=n then some n.toNat else none
 | _=>none
theorem NB {ρ:aa} {x:X} {n:Nat} (h:BY x=some n):lU 0 (some (x.I ρ))=some n:=by
 unfold BY at h
 split at h
 ·split at h
  ·rename_i h0
   cases h
   simp only[X.I,Sc.I,U.I,lU]
   rw[if_pos h0]
  ·cases h
 ·cases h
def P6 (i:TI) (h:au) (x:X) (lo:Option X) (hi mx:X):Option X :=
 match(match lo with | none=>some 0 | some v=>BY v),BY hi,BY mx with
 | some l,some W,some m=>match x with
  | .ro z D _=>match i.sl with
   | some (_,z')=>if(Nat.beq z' z&&(Nat.ble l W&&(Nat.ble W m&&Nat.ble m D.length)))=true then some (.ro z ((D.take W).drop l) (Nat.beq m W))else none
   | none=>none
  | .sl n z _ len _=>match i.sl with
   | some (_,z')=>if(Nat.beq z' z&&(iu h n&&(Nat.beq W l&&(Nat.beq m l&&Nat.ble l len))))=true then some (.ro z [] true)else none
   | none=>none
  | _=>none
 | _,_,_=>none
theorem aq4 {P:Program} {ρ:aa} {ty:TypeId} {h:au} {x hi mx v:X} {lo:Option X} (R:P6 (cq P ty) h x lo hi mx=some v):pT P (aN ρ h) ty (x.I ρ) (lo.map (X.I ρ)) (some (hi.I ρ)) (some (mx.I ρ))=some (v.I ρ):=by
 unfold P6 at R
 split at R
 ·rename_i l W m A E h3
  have e1:lU 0 (lo.map (X.I ρ))=some l:=by
   cases lo with
   | none=>cases A;rfl
   | some w=>exact NB A
  have e2:=NB (ρ:=ρ) E
  have e3:=NB (ρ:=ρ) h3
  simp only[pT,e1,e2,e3,If]
  split at R
  ·rename_i z D f
   split at R
   ·rename_i ee z' ha
    have dy:bE P ty=some (ee,z'):=ha
    split at R
    ·rename_i H
     cases R
     simp only[Bool.and_eq_true,Nat.ble_eq]at H
     obtain⟨c1,c2,c3,dx⟩:=H
     have c1:=Nat.eq_of_beq_eq_true c1
     simp only[X.I,dy]
     have hlen:(X.aX ρ D).length=D.length:=by simp[X.ef]
     rw[if_pos ⟨c1,c2,c3,by rw[hlen];exact dx⟩]
     have:Nat.beq m W=(m==W):=by rw[Bool.eq_iff_iff];simp
     rw[this]
     simp[X.ef,List.map_take,List.map_drop]
    ·cases R
   ·cases R
  ·rename_i n z off len own
   split at R
   ·rename_i ee z' ha
    have dy:bE P ty=some (ee,z'):=ha
    split at R
    ·rename_i H
     cases R
     simp only[Bool.and_eq_true,Nat.ble_eq]at H
     obtain⟨c1,c2,c3,dx,t7⟩:=H
     simp only[X.I,dy]
     rw[if_pos ⟨Nat.eq_of_beq_eq_true c1,jD c2,Nat.eq_of_beq_eq_true c3,Nat.eq_of_beq_eq_true dx,t7⟩]
     rfl
    ·cases R
   ·cases R
  ·cases R
 ·cases R
end Go.Proofs.Xw
namespace Go.Proofs.Xw
open Go Go.Proofs.Aw
def iX (k k':IntKind) (x:X):T X:=if ml k k'=true then .ret x else(.fail [])
def MZ (op:BinOp) (B:J) (k:IntKind) (a:U) (k':IntKind) (b:U):T X :=
 match op with
 | .add=>iX k k' (.sc (.i k (hQ .add k a b)))
 | .sub=>iX k k' (.sc (.i k (hQ .sub k a b)))
 | .mul=>iX k k' (.sc (.i k (hQ .mul k a b)))
 | .and=>iX k k' (.sc (.i k (hQ .and k a b)))
 | .or=>iX k k' (.sc (.i k (hQ .or k a b)))
 | .xor=>iX k k' (.sc (.i k (hQ .xor k a b)))
 | .andNot=>iX k k' (.sc (.i k (hQ .andNot k a b)))
 | .lss=>iX k k' (.sc (.b (mkLt a b)))
 | .leq=>iX k k' (.sc (.b (mkNot (mkLt b a))))
 | .gtr=>iX k k' (.sc (.b (mkLt b a)))
 | .geq=>iX k k' (.sc (.b (mkNot (mkLt a b))))
 | .eql=>iX k k' (.sc (.b (mkEq a b)))
 | .neq=>iX k k' (.sc (.b (mkNot (mkEq a b))))
 | .quo=>want B (mkNot (mkEq b (.lit 0))) fun _=>iX k k' (.sc (.i k (hQ .quo k a b)))
 | .rem=>want B (mkNot (mkEq b (.lit 0))) fun _=>iX k k' (.sc (.i k (hQ .rem k a b)))
 | .shl=>want B (mkNot (mkLt b (.lit 0))) fun _ => .ret (.sc (.i k (hQ .shl k a b)))
 | .shr=>want B (mkNot (mkLt b (.lit 0))) fun _ => .ret (.sc (.i k (hQ .shr k a b)))
theorem P3 {ρ:aa} {k k':IntKind} {x v:X} (h:(iX k k' x).aq ρ=some v):k=k'/\v=x:=by
 unfold iX at h
 split at h
 ·rename_i u;cases h;exact⟨oj u,rfl⟩
 ·cases h
theorem adZ {a b:Int}:(!decide (a<b))=decide (b<=a):=by
 rw[Bool.eq_iff_iff];simp
theorem agP {ρ:aa} {op:BinOp} {B:J} {k k':IntKind} {a b:U} {v:X} (u:J.ok ρ B) (h:(MZ op B k a k' b).aq ρ=some v):(qO op k (a.I ρ) k' (b.I ρ)).map AV.sc=some (v.I ρ):=by
 cases op<;>simp only[MZ]at h
 case quo =>
  obtain⟨_,_,A,h⟩:=cW u h
  obtain⟨rfl,rfl⟩:=P3 h
  rw[eu,eQ]at A
  have ax:b.I ρ≠0:=by simpa [U.I]using A
  simp[qO,ax,X.I,Sc.I,ov,a7.I]
 case rem =>
  obtain⟨_,_,A,h⟩:=cW u h
  obtain⟨rfl,rfl⟩:=P3 h
  rw[eu,eQ]at A
  have ax:b.I ρ≠0:=by simpa [U.I]using A
  simp[qO,ax,X.I,Sc.I,ov,a7.I]
 case shl =>
  obtain⟨_,_,A,h⟩:=cW u h
  cases h
  have A:=eH A
  simp only[U.I]at A
  have ax:0<=b.I ρ:=by omega
  simp[qO,ax,X.I,Sc.I,ov,a7.I]
 case shr =>
  obtain⟨_,_,A,h⟩:=cW u h
  cases h
  have A:=eH A
  simp only[U.I]at A
  have ax:0<=b.I ρ:=by omega
  simp[qO,ax,X.I,Sc.I,ov,a7.I]
 all_goals
  obtain⟨rfl,rfl⟩:=P3 h
  simp only[qO,if_true,Option.map_some,X.I,Sc.I,ov,a7.I,gW,eu,eQ,adZ]
def Qj (op:BinOp) (a b:TE):Option X :=
 match op with
 | .eql=>some (.sc (.b (mkSeq a b)))
 | .neq=>some (.sc (.b (mkNot (mkSeq a b))))
 | .lss=>some (.sc (.b (.slt a b)))
 | .leq=>some (.sc (.b (mkOr (.slt a b) (mkSeq a b))))
 | .gtr=>some (.sc (.b (mkNot (mkOr (.slt a b) (mkSeq a b)))))
 | .geq=>some (.sc (.b (mkNot (.slt a b))))
 | _=>none
theorem arv {ρ:aa} {op:BinOp} {a b:TE} {v:X} (h:Qj op a b=some v):(CV op (a.I ρ) (b.I ρ)).map AV.sc=some (v.I ρ):=by
 cases op<;>simp only[Qj,Option.some.injEq,reduceCtorEq]at h<;>subst h<;>simp only[CV,Option.map_some,X.I,Sc.I,N4,eu,ow,BE.I]
def mQ:List Nat->List X->List X->Option BE
 | [],[],[]=>some (.lit true)
 | k::ks,a::aF,b::bs =>
  match k,a,b with
  | 0,.sc (.b x),.sc (.b y)=>(mQ ks aF bs).map fun r=>mkAnd (mkIff x y) r
  | 1,.sc (.i i x),.sc (.i j y)=>if ml i j=true then(mQ ks aF bs).map fun r=>mkAnd (mkEq x y) r else none
  | 2,.sc (.s x),.sc (.s y)=>(mQ ks aF bs).map fun r=>mkAnd (mkSeq x y) r
  | _,_,_=>none
 | _,_,_=>none
theorem Ar {ρ:aa}:∀{l:List Nat} {xs ys:List X} {e:BE},mQ l xs ys=some e->ai l (X.af ρ xs) (X.af ρ ys)=some (e.I ρ)
 | [],[],[],e,h=>by simp only[mQ,Option.some.injEq]at h;subst h;rfl
 | k::ks,a::aF,b::bs,e,h=>by
  simp only[mQ]at h
  split at h
  ·obtain⟨r,hr,rfl⟩:=Option.map_eq_some_iff.1 h
   simp only[X.af,X.I,Sc.I,ai,Ar hr,Option.map_some,fL,GB]
  ·split at h
   ·rename_i u
    obtain⟨r,hr,rfl⟩:=Option.map_eq_some_iff.1 h
    have u:=oj u
    simp only[X.af,X.I,Sc.I,ai,Ar hr,Option.map_some,fL,eQ,u,if_true]
   ·cases h
  ·obtain⟨r,hr,rfl⟩:=Option.map_eq_some_iff.1 h
   simp only[X.af,X.I,Sc.I,ai,Ar hr,Option.map_some,fL,N4]
  ·cases h
 | [],[],_::_,_,h=>by simp[mQ]at h
 | [],_::_,_,_,h=>by simp[mQ]at h
 | _::_,[],_,_,h=>by simp[mQ]at h
 | _::_,_::_,[],_,h=>by simp[mQ]at h
def JN (e:U):BE:=mkAnd (mkLt (.lit (-9007199254740992)) e) (mkLt e (.lit 9007199254740992))
theorem ada {ρ:aa} {e:U} (h:(JN e).I ρ=true):(e.I ρ).natAbs<2 ^ 53:=by
 unfold JN at h
 rw[fL,gW,gW,Bool.and_eq_true]at h
 have A:=of_decide_eq_true h.1
 have E:=of_decide_eq_true h.2
 simp only[U.I]at A E
 omega
def g9 (B:J) (k:T X):List U->T X
 | []=>k
 | e::l=>want B (JN e) fun _=>g9 B k l
theorem hZ {ρ:aa} {B:J} {k:T X} {v:X} (u:J.ok ρ B):∀{l:List U},(g9 B k l).aq ρ=some v->(∀e∈l,(e.I ρ).natAbs<2 ^ 53)/\k.aq ρ=some v
 | [],h=>⟨(fun _ G=>by cases G),h⟩
 | e::l,h=>by
  obtain⟨_,_,A,E⟩:=cW u h
  obtain⟨g1,g2⟩:=hZ u E
  exact⟨fun d hd=>by
   rcases List.mem_cons.1 hd with rfl | hd
   ·exact ada A
   ·exact g1 d hd,g2⟩
structure Fl where
 n:U
 z:BE
noncomputable def Fl.I (ρ:aa) (a:Fl):Nat:=fv (a.n.I ρ) (a.z.I ρ)
theorem Ua {n:Int} {a b:Bool} (h:n=0->a=b):fv n a=fv n b:=by
 by_cases h0:n=0
 ·rw[h h0]
 ·simp only[fv,a6,h0,if_false]
def Fl.add (a b:Fl):Fl:=⟨mkAdd a.n b.n,mkAnd (mkAnd a.z b.z) (mkEq a.n (.lit 0))⟩
def Fl.sub (a b:Fl):Fl:=⟨mkSub a.n b.n,mkAnd (mkAnd a.z (mkNot b.z)) (mkEq a.n (.lit 0))⟩
def Ib (n:U) (z:BE):BE:=im (mkEq n (.lit 0)) z (mkLt n (.lit 0))
theorem aq2 (ρ:aa) (n:U) (z:BE):(Ib n z).I ρ=a6 (n.I ρ) (z.I ρ):=by
 unfold Ib a6
 rw[kx,eQ,gW]
 simp only[U.I,beq_iff_eq]
 by_cases h:n.I ρ=0
 ·simp[h]
 ·rw[if_neg h,if_neg h];rfl
def Ra (a b:BE):BE:=mkNot (mkIff a b)
theorem atL (ρ:aa) (a b:BE):(Ra a b).I ρ=(a.I ρ ^^ b.I ρ):=by
 unfold Ra
 rw[eu,GB]
 cases a.I ρ<;>cases b.I ρ<;>rfl
def Fl.mul (a b:Fl):Fl:=⟨mkMul a.n b.n,Ra (Ib a.n a.z) (Ib b.n b.z)⟩
section
variable {ρ:aa} {a b:Fl}
theorem Fl.D3 (ha:(a.n.I ρ).natAbs<2 ^ 53) (hb:(b.n.I ρ).natAbs<2 ^ 53) (hs:((a.add b).n.I ρ).natAbs<2 ^ 53):Ieee.double.add (a.I ρ) (b.I ρ)=some ((a.add b).I ρ):=by
 simp only[Fl.add,fe]at hs
 simp only[Fl.I,Fl.add,fe,fL,eQ,U.I]
 rw[aeR ha hb hs]
 congr 1
 refine Ua fun h0 => ?_
 unfold a6
 by_cases A:a.n.I ρ=0
 ·rw[if_pos A,if_pos (by omega)];simp[A]
 ·rw[if_neg A,if_neg (by omega)]
  have:(a.n.I ρ==0)=false:=by simpa using A
  rw[this,Bool.and_false]
  by_cases E:a.n.I ρ<0
  ·rw[decide_eq_false (show ¬b.n.I ρ<0 by omega),Bool.and_false]
  ·rw[decide_eq_false E,Bool.false_and]
theorem Fl.Ip (ha:(a.n.I ρ).natAbs<2 ^ 53) (hb:(b.n.I ρ).natAbs<2 ^ 53) (hs:((a.sub b).n.I ρ).natAbs<2 ^ 53):Ieee.double.sub (a.I ρ) (b.I ρ)=some ((a.sub b).I ρ):=by
 simp only[Fl.sub,nc]at hs
 simp only[Fl.I,Fl.sub,nc,fL,eu,eQ,U.I]
 rw[afd ha hb hs]
 congr 1
 refine Ua fun h0 => ?_
 unfold a6
 by_cases A:a.n.I ρ=0
 ·rw[if_pos A,if_pos (by omega)];simp[A]
 ·rw[if_neg A,if_neg (by omega)]
  have:(a.n.I ρ==0)=false:=by simpa using A
  rw[this,Bool.and_false]
  by_cases E:a.n.I ρ<0
  ·rw[decide_eq_true (show b.n.I ρ<0 by omega)];simp
  ·rw[decide_eq_false E,Bool.false_and]
theorem Fl.Cc (ha:(a.n.I ρ).natAbs<2 ^ 53) (hb:(b.n.I ρ).natAbs<2 ^ 53) (hs:((a.mul b).n.I ρ).natAbs<2 ^ 53):Ieee.double.mul (a.I ρ) (b.I ρ)=some ((a.mul b).I ρ):=by
 simp only[Fl.mul,yD]at hs
 simp only[Fl.I,Fl.mul,yD,atL,aq2]
 exact ae5 ha hb hs
theorem Fl.pJ (ha:(a.n.I ρ).natAbs<2 ^ 53) (hb:(b.n.I ρ).natAbs<2 ^ 53):Ieee.double.order (a.I ρ) (b.I ρ)=some (compare (a.n.I ρ) (b.n.I ρ)):=ae7 ha hb
end
theorem uC (n m:Int):(some (compare n m)==some Ordering.lt)=decide (n<m):=by
 by_cases h:n<m
 ·simp[compare,compareOfLessAndEq,h]
 ·by_cases E:n=m<;>simp[compare,compareOfLessAndEq,h,E]
theorem J_ (n m:Int):(some (compare n m)==some Ordering.gt)=decide (m<n):=by
 by_cases h:n<m
 ·simp[compare,compareOfLessAndEq,h];omega
 ·by_cases E:n=m
  ·simp[compare,compareOfLessAndEq,E]
  ·simp[compare,compareOfLessAndEq,h,E];omega
theorem uB (n m:Int):(some (compare n m)==some Ordering.eq)=(n==m):=by
 by_cases h:n<m
 ·simp[compare,compareOfLessAndEq,h];omega
 ·by_cases E:n=m<;>simp[compare,compareOfLessAndEq,h,E]
def Lw (op:BinOp) (B:J) (a b:Fl):T X :=
 match op with
 | .add=>g9 B (.ret (.sc (.f (a.add b).n (a.add b).z))) [a.n,b.n,(a.add b).n]
 | .sub=>g9 B (.ret (.sc (.f (a.sub b).n (a.sub b).z))) [a.n,b.n,(a.sub b).n]
 | .mul=>g9 B (.ret (.sc (.f (a.mul b).n (a.mul b).z))) [a.n,b.n,(a.mul b).n]
 | .eql=>g9 B (.ret (.sc (.b (mkEq a.n b.n)))) [a.n,b.n]
 | .neq=>g9 B (.ret (.sc (.b (mkNot (mkEq a.n b.n))))) [a.n,b.n]
 | .lss=>g9 B (.ret (.sc (.b (mkLt a.n b.n)))) [a.n,b.n]
 | .leq=>g9 B (.ret (.sc (.b (mkNot (mkLt b.n a.n))))) [a.n,b.n]
 | .gtr=>g9 B (.ret (.sc (.b (mkLt b.n a.n)))) [a.n,b.n]
 | .geq=>g9 B (.ret (.sc (.b (mkNot (mkLt a.n b.n))))) [a.n,b.n]
 | _ => .fail ["float"]
theorem le_iff (n m:Int):(decide (n<m)||n==m) = !decide (m<n):=by
 rw[Bool.eq_iff_iff];simp;omega
theorem afi (n m:Int):(decide (m<n)||n==m) = !decide (n<m):=by
 rw[Bool.eq_iff_iff];simp;omega
theorem ae4 {ρ:aa} {op:BinOp} {B:J} {a b:Fl} {v:X} (u:J.ok ρ B) (h:(Lw op B a b).aq ρ=some v):(eV op (a.I ρ) (b.I ρ)).map AV.sc=some (v.I ρ):=by
 cases op<;>simp only[Lw]at h
 case add =>
  obtain⟨g,h⟩:=hZ u h
  cases h
  simp only[eV,Fl.D3 (a:=a) (b:=b) (g _ (by simp)) (g _ (by simp)) (g _ (by simp))];rfl
 case sub =>
  obtain⟨g,h⟩:=hZ u h
  cases h
  simp only[eV,Fl.Ip (a:=a) (b:=b) (g _ (by simp)) (g _ (by simp)) (g _ (by simp))];rfl
 case mul =>
  obtain⟨g,h⟩:=hZ u h
  cases h
  simp only[eV,Fl.Cc (a:=a) (b:=b) (g _ (by simp)) (g _ (by simp)) (g _ (by simp))];rfl
 case eql =>
  obtain⟨g,h⟩:=hZ u h
  cases h
  simp only[eV,Fl.pJ (a:=a) (b:=b) (g _ (by simp)) (g _ (by simp)),uB,Option.map_some,X.I,Sc.I,eQ]
 case neq =>
  obtain⟨g,h⟩:=hZ u h
  cases h
  simp only[eV,Fl.pJ (a:=a) (b:=b) (g _ (by simp)) (g _ (by simp)),bne,uB,Option.map_some,X.I,Sc.I,eQ,eu]
 case lss =>
  obtain⟨g,h⟩:=hZ u h
  cases h
  simp only[eV,Fl.pJ (a:=a) (b:=b) (g _ (by simp)) (g _ (by simp)),uC,Option.map_some,X.I,Sc.I,gW]
 case leq =>
  obtain⟨g,h⟩:=hZ u h
  cases h
  simp only[eV,Fl.pJ (a:=a) (b:=b) (g _ (by simp)) (g _ (by simp)),uC,uB,le_iff,Option.map_some,X.I,Sc.I,gW,eu]
 case gtr =>
  obtain⟨g,h⟩:=hZ u h
  cases h
  simp only[eV,Fl.pJ (a:=a) (b:=b) (g _ (by simp)) (g _ (by simp)),J_,Option.map_some,X.I,Sc.I,gW]
 case geq =>
  obtain⟨g,h⟩:=hZ u h
  cases h
  simp only[eV,Fl.pJ (a:=a) (b:=b) (g _ (by simp)) (g _ (by simp)),J_,uB,afi,Option.map_some,X.I,Sc.I,gW,eu]
 all_goals cases h
def Ek (a b:Fl):X := .sc (.c a.n a.z b.n b.z)
theorem ads (ρ:aa) (a b:Fl):(Ek a b).I ρ = .sc (.complex .f64 (a.I ρ) (b.I ρ)):=rfl
def Km (op:BinOp) (B:J) (a b c d:Fl):T X :=
 match op with
 | .add=>g9 B (.ret (Ek (a.add c) (b.add d))) [a.n,c.n,(a.add c).n,b.n,d.n,(b.add d).n]
 | .sub=>g9 B (.ret (Ek (a.sub c) (b.sub d))) [a.n,c.n,(a.sub c).n,b.n,d.n,(b.sub d).n]
 | .mul=>g9 B (.ret (Ek ((a.mul c).sub (b.mul d)) ((a.mul d).add (b.mul c)))) [a.n,b.n,c.n,d.n,(a.mul c).n,(b.mul d).n,(a.mul d).n,(b.mul c).n,((a.mul c).sub (b.mul d)).n,((a.mul d).add (b.mul c)).n]
 | .eql=>g9 B (.ret (.sc (.b (mkAnd (mkEq a.n c.n) (mkEq b.n d.n))))) [a.n,b.n,c.n,d.n]
 | .neq=>g9 B (.ret (.sc (.b (mkNot (mkAnd (mkEq a.n c.n) (mkEq b.n d.n)))))) [a.n,b.n,c.n,d.n]
 | _ => .fail ["complex"]
theorem adN {ρ:aa} {op:BinOp} {B:J} {a b c d:Fl} {v:X} (u:J.ok ρ B) (h:(Km op B a b c d).aq ρ=some v):(qm op (a.I ρ) (b.I ρ) (c.I ρ) (d.I ρ)).map AV.sc=some (v.I ρ):=by
 cases op<;>simp only[Km]at h
 case add =>
  obtain⟨g,h⟩:=hZ u h
  cases h
  simp only[qm,Fl.D3 (a:=a) (b:=c) (g _ (by simp)) (g _ (by simp)) (g _ (by simp)),Fl.D3 (a:=b) (b:=d) (g _ (by simp)) (g _ (by simp)) (g _ (by simp))];rfl
 case sub =>
  obtain⟨g,h⟩:=hZ u h
  cases h
  simp only[qm,Fl.Ip (a:=a) (b:=c) (g _ (by simp)) (g _ (by simp)) (g _ (by simp)),Fl.Ip (a:=b) (b:=d) (g _ (by simp)) (g _ (by simp)) (g _ (by simp))];rfl
 case mul =>
  obtain⟨g,h⟩:=hZ u h
  simp only[T.aq,Option.some.injEq]at h
  subst h
  simp only[List.forall_mem_cons]at g
  obtain⟨g1,g2,g3,g4,g5,g6,g7,Ub,aff,g10,_⟩:=g
  have e1:=Fl.Cc (a:=a) (b:=c) g1 g3 g5
  have e2:=Fl.Cc (a:=b) (b:=d) g2 g4 g6
  have e3:=Fl.Cc (a:=a) (b:=d) g1 g4 g7
  have e4:=Fl.Cc (a:=b) (b:=c) g2 g3 Ub
  have iF:=Fl.Ip (a:=a.mul c) (b:=b.mul d) g5 g6 aff
  have KF:=Fl.D3 (a:=a.mul d) (b:=b.mul c) g7 Ub g10
  simp only[qm,e1,e2,e3,e4,Kl,iF,KF,ads,Option.map_some]
 case eql =>
  obtain⟨g,h⟩:=hZ u h
  cases h
  simp only[qm,Fl.pJ (a:=a) (b:=c) (g _ (by simp)) (g _ (by simp)),Fl.pJ (a:=b) (b:=d) (g _ (by simp)) (g _ (by simp)),uB,Option.map_some,X.I,Sc.I,eQ,fL]
 case neq =>
  obtain⟨g,h⟩:=hZ u h
  cases h
  simp only[qm,Fl.pJ (a:=a) (b:=c) (g _ (by simp)) (g _ (by simp)),Fl.pJ (a:=b) (b:=d) (g _ (by simp)) (g _ (by simp)),uB,Option.map_some,X.I,Sc.I,eQ,fL,eu]
 all_goals cases h
def JL (i:TI) (B:J) (op:BinOp) (x y:X):T X :=
 match x,y with
 | .sc (.i k a),.sc (.i k' b)=>MZ op B k a k' b
 | .sc (.s a),.sc (.s b)=>eI (Qj op a b)
 | .sc (.b a),.sc (.b b)=>match i.w3,op with
  | true,.eql => .ret (.sc (.b (mkIff a b)))
  | true,.neq => .ret (.sc (.b (mkNot (mkIff a b))))
  | _,_=>(.fail [])
 | .sc (.f n z),.sc (.f m y)=>Lw op B ⟨n,z⟩ ⟨m,y⟩
 | .sc (.c n z m y),.sc (.c n' z' m' Dr)=>Km op B ⟨n,z⟩ ⟨m,y⟩ ⟨n',z'⟩ ⟨m',Dr⟩
 | .agg xs,.agg ys=>match i.V7,op with
  | some l,.eql=>eI ((mQ l xs ys).map fun e => .sc (.b e))
  | some l,.neq=>eI ((mQ l xs ys).map fun e => .sc (.b (mkNot e)))
  | _,_=>(.fail [])
 | _,_=>(.fail [])
theorem ac8 {P:Program} {ρ:aa} {ty:TypeId} {B:J} {op:BinOp} {x y v:X} (u:J.ok ρ B) (h:(JL (cq P ty) B op x y).aq ρ=some v):gn P op ty (x.I ρ) (y.I ρ)=some (v.I ρ):=by
 unfold JL at h
 split at h
 ·simp only[X.I,Sc.I,gn]
  exact agP u h
 ·simp only[X.I,Sc.I,gn]
  exact arv (e5 h)
 ·split at h
  ·rename_i hb
   have f0:w4 P ty=true:=hb
   cases h
   simp only[X.I,Sc.I,gn,f0,GB]
  ·rename_i hb
   have f0:w4 P ty=true:=hb
   cases h
   simp only[X.I,Sc.I,gn,f0,GB,eu]
  ·cases h
 ·have g:=ae4 u h
  simp only[Fl.I]at g
  simp only[X.I,Sc.I,gn]
  exact g
 ·have g:=adN u h
  simp only[Fl.I]at g
  simp only[X.I,Sc.I,gn]
  exact g
 ·split at h
  ·rename_i l M
   have bW:vy P ty=some l:=M
   obtain⟨e,G,rfl⟩:=Option.map_eq_some_iff.1 (e5 h)
   simp only[X.I,Sc.I,gn,bW,Option.bind_some,Ar G,Option.map_some]
  ·rename_i l M
   have bW:vy P ty=some l:=M
   obtain⟨e,G,rfl⟩:=Option.map_eq_some_iff.1 (e5 h)
   simp only[X.I,Sc.I,gn,bW,Option.bind_some,Ar G,Option.map_some,eu]
  ·cases h
 ·cases h
def QL (B:J) (op:UnOp):X->T X
 | .sc (.b e) => match op with | .not => .ret (.sc (.b (mkNot e))) | _ => .fail ["op"]
 | .sc (.i k e) => match op with | .neg => .ret (.sc (.i k (hQ .sub k (.lit 0) e))) | _ => .fail ["op"]
 | .sc (.f n z) => match op with | .neg => g9 B (.ret (.sc (.f (mkSub (.lit 0) n) (mkNot z)))) [n] | _ => .fail ["op"]
 | .sc (.c n z m y) => match op with | .neg => g9 B (.ret (.sc (.c (mkSub (.lit 0) n) (mkNot z) (mkSub (.lit 0) m) (mkNot y)))) [n, m] | _ => .fail ["op"]
 | _ => .fail ["op"]
theorem as8 {ρ:aa} {B:J} {op:UnOp} {x v:X} (u:J.ok ρ B) (h:(QL B op x).aq ρ=some v):rO op (x.I ρ)=some (v.I ρ):=by
 unfold QL at h
 split at h
 ·split at h
  ·cases h;simp only[X.I,Sc.I,rO,eu]
  ·cases h
 ·split at h
  ·cases h;simp only[X.I,Sc.I,rO,ov,a7.I,U.I]
  ·cases h
 ·split at h
  ·obtain⟨g,h⟩:=hZ u h
   cases h
   simp only[X.I,Sc.I,rO,nc,eu,U.I,Lx (g _ List.mem_cons_self),Int.zero_sub]
  ·cases h
 ·split at h
  ·obtain⟨g,h⟩:=hZ u h
   cases h
   simp only[X.I,Sc.I,rO,nc,eu,U.I,Lx (g _ List.mem_cons_self),Lx (g _ (List.mem_cons_of_mem _ List.mem_cons_self)),Int.zero_sub]
  ·cases h
 ·cases h
def N1 (k:IntKind):U->U
 | .lit n => .lit (k.wrap n)
 | e => .op .conv k e (.lit 0)
theorem ain (ρ:aa) (k:IntKind) (e:U):(N1 k e).I ρ=k.wrap (e.I ρ):=by
 unfold N1;split<;>simp[U.I,a7.I]
def Kj (B:J) (src dst:TI):X->T X
 | .sc (.i _ e)=>match dst.x',src.QM with
  | some k,true => .ret (.sc (.i k (N1 k e)))
  | none,true=>(match dst.fl with
   | true=>g9 B (.ret (.sc (.f (fq B e) (.lit false)))) [fq B e]
   | false => .fail ["conv"])
  | _, _ => .fail ["conv"]
 | .sc (.f n _)=>match dst.x',src.QM with
  | some .i64,true=>g9 B (.ret (.sc (.i .i64 n))) [n]
  | _, _ => .fail ["conv"]
 | _ => .fail ["conv"]
theorem agD {n:Int} (h:n.natAbs<2 ^ 53):IntKind.i64.min<=n/\n<=IntKind.i64.max:=by
 have e1:IntKind.i64.min = -9223372036854775808:=by decide
 have e2:IntKind.i64.max=9223372036854775807:=by decide
 rw[e1,e2]
 omega
theorem adK {P:Program} {ρ:aa} {B:J} {src dst:TypeId} {x v:X} (u:J.ok ρ B) (h:(Kj B (cq P src) (cq P dst) x).aq ρ=some v):w9 P src dst (x.I ρ)=some (v.I ρ):=by
 have x':∀{k:IntKind},MW P dst=some k->P.underlying dst=some (.int k):=fun aO=>by
  unfold MW at aO
  split at aO
  ·rename_i hd;cases aO;exact hd
  ·cases aO
 unfold Kj at h
 split at h
 ·split at h
  ·rename_i k bp hu
   have a3:(P.underlying src).isSome=true:=hu
   cases h
   simp only[X.I,Sc.I,w9,a3,if_true,uD,ain,x' bp]
  ·rename_i bp hu
   have a3:(P.underlying src).isSome=true:=hu
   split at h
   ·rename_i hf
    obtain⟨g,h⟩:=hZ u h
    cases h
    have fE:P.underlying dst=some (.float .f64):=by
     have hf:Lr P dst=true:=hf
     unfold Lr at hf
     split at hf
     ·assumption
     ·cases hf
    have g1:=g _ List.mem_cons_self
    simp only[X.I,Sc.I,w9,a3,if_true,uD,fE,BE.I]
    rw[Ci u]at g1 ⊢
    rw[ae6 _ g1]
   ·cases h
  ·cases h
 ·split at h
  ·rename_i bp hu
   have a3:(P.underlying src).isSome=true:=hu
   obtain⟨g,h⟩:=hZ u h
   cases h
   have g1:=g _ List.mem_cons_self
   simp only[X.I,Sc.I,w9,a3,if_true,uD,x' bp,ae0 g1,agD g1,and_self]
  ·cases h
 ·cases h
def Aj:Builtin->List X->Option X
 | .real,[.sc (.c n z _ _)]=>some (.sc (.f n z))
 | .imag,[.sc (.c _ _ m y)]=>some (.sc (.f m y))
 | .complex,[.sc (.f n z),.sc (.f m y)]=>some (.sc (.c n z m y))
 | _,_=>none
theorem adM {ρ:aa} {b:Builtin} {xs:List X} {v:X} (h:Aj b xs=some v):uE b (X.af ρ xs)=some (v.I ρ):=by
 unfold Aj at h
 split at h
 ·cases h;rfl
 ·cases h;rfl
 ·cases h;rfl
 ·cases h
def AO (place:Nat->Option (Nat×Nat)) (cells:List X):List (Nat×X)->Option (List X)
 | []=>some cells
 | (i,v)::r=>match place i with
  | none=>none
  | some (off,size)=>if(Nat.beq v.cells.length size&&(Nat.ble (off+size) cells.length&&v.cells.all X.one))=true then AO place (tI cells off v.cells) r else none
noncomputable def mN (ρ:aa) (ps:List (Nat×X)):List (Nat×AV):=ps.map fun p=>(p.1,p.2.I ρ)
theorem TU {ρ:aa} {place:Nat->Option (Nat×Nat)}:∀{ps:List (Nat×X)} {cells cs:List X},AO place cells ps=some cs->ma place (X.af ρ cells) (mN ρ ps)=some (X.af ρ cs)
 | [],_,_,h=>by simp only[AO,Option.some.injEq]at h;subst h;rfl
 | (i,v)::r,cells,cs,h=>by
  simp only[AO]at h
  simp only[mN,List.map_cons,ma]
  split at h
  ·cases h
  ·rename_i off size hp
   rw[hp]
   simp only
   split at h
   ·rename_i H
    simp only[Bool.and_eq_true,Nat.ble_eq]at H
    rw[X.Ac ρ v H.2.2,X.f_,X.f_,if_pos ⟨Nat.eq_of_beq_eq_true H.1,H.2.1,X.nL ρ _ H.2.2⟩,<-Ij]
    exact TU h
   ·cases h
def Xx (i:TI):Nat->Option (Nat×Nat) :=
 match i.arr,i.rc with
 | some (_,z),_=>fun j=>some (j*z,z)
 | none,some l=>fun j=>l[j]?
 | none,none=>fun _=>none
def JQ (i:TI) (ps:List (Nat×X)):Option X :=
 match i.zero with
 | some zs=>if(i.arr.isSome||i.rc.isSome)=true then(AO (Xx i) (zs.map mz) ps).map .agg else none
 | none=>none
theorem G4 (ρ:aa) (l:List Value):X.af ρ (l.map mz)=l.map AV.sc:=by simp[X.l5,W0]
theorem adi {P:Program} {ρ:aa} {ty:TypeId} {ps:List (Nat×X)} {v:X} (h:JQ (cq P ty) ps=some v):Ej P ty (mN ρ ps) (fy P ty)=some (v.I ρ):=by
 unfold JQ at h
 split at h
 ·rename_i zs hz
  have ju:zeroV P ty=some zs:=hz
  split at h
  ·rename_i H
   obtain⟨cs,hf,rfl⟩:=Option.map_eq_some_iff.1 h
   rw[I_,ju]
   simp only[Option.map_some,Ej]
   have dz:((er P ty).isSome||(jb P ty).isSome)=true:=H
   rw[if_pos dz,<-G4 ρ]
   have hp:Xx (cq P ty)=placeOf P ty:=rfl
   rw[hp]at hf
   rw[TU hf];rfl
  ·cases h
 ·cases h
def xd (z:Nat):Nat->List (Nat×X)->Bool
 | _,[]=>true
 | k,(i,v)::r=>Nat.beq i k&&(Nat.beq v.cells.length z&&(v.cells.all X.one&&xd z (k+1) r))
theorem S3 {ρ:aa} {z:Nat}:∀{ps:List (Nat×X)} {k:Nat},xd z k ps=true->kX z k (mN ρ ps)=true
 | [],_,_=>rfl
 | (i,v)::r,k,h=>by
  simp only[xd,Bool.and_eq_true]at h
  simp only[mN,List.map_cons,kX,Bool.and_eq_true,beq_iff_eq,X.Ac ρ v h.2.2.1,X.f_]
  exact⟨Nat.eq_of_beq_eq_true h.1,Nat.eq_of_beq_eq_true h.2.1,X.nL ρ _ h.2.2.1,S3 h.2.2.2⟩
def v3:List (Nat×X)->List (List X)
 | []=>[]
 | (_,v)::r=>v.cells::v3 r
theorem O2 (ρ:aa) {z:Nat}:∀(ps:List (Nat×X)) {k:Nat},xd z k ps=true->X.aX ρ (v3 ps)=gB (mN ρ ps)
 | [],_,_=>rfl
 | (i,v)::r,k,h=>by
  simp only[xd,Bool.and_eq_true]at h
  simp only[v3,X.aX,mN,List.map_cons,gB,X.Ac ρ v h.2.2.1];rw[O2 ρ r h.2.2.2];rfl
def e9:List (List X)->List X
 | []=>[]
 | e::D=>e++e9 D
theorem qu (ρ:aa):∀D,X.af ρ (e9 D)=(X.aX ρ D).flatten
 | []=>rfl
 | e::D=>by simp only[e9,X.aX,List.flatten_cons,X.gp,qu ρ D]
def Rq (i:TI):Option Nat:=i.zero.map List.length
theorem atO (P:Program) (e:TypeId):Rq (cq P e)=nE P e:=by
 unfold Rq nE
 rw[I_]
 show(zeroV P e).map List.length=_
 cases zeroV P e with
 | none=>rfl
 | some l=>simp
def Ja (i:TI) (z:Nat):Bool:=match Rq i with | some z'=>Nat.beq z' z | none=>false
theorem aa1 {P:Program} {e:TypeId} {z:Nat} (h:Ja (cq P e) z=true):nE P e=some z:=by
 rw[<-atO]
 unfold Ja at h
 split at h
 ·rename_i z' ju;rw[ju,Nat.eq_of_beq_eq_true h]
 ·cases h
def JP (n:Nat) (mu:Bool) (i:TI) (ti:Nat->Option TI) (len:Nat) (ps:List (Nat×X)):Option (X×aL) :=
 match i.sl with
 | some (e,z)=>match ti e with
  | some ie=>if(Ja ie z&&(Nat.ble (len*z) 16777216&&(Nat.beq ps.length len&&xd z 0 ps)))=true then
    (match mu with
    | false=>some (.ro z (v3 ps) true,[])
    | true=>if b5 (e9 (v3 ps))=true then none else some (.sl (n,0) z 0 len true,[((n,0),some (e9 (v3 ps)))]))
   else none
  | none=>none
 | none=>none
def eM.ok (P:Program) (ti:Nat->Option TI):Prop:=∀t i,ti t=some i->i=cq P t
theorem adh {P:Program} {ρ:aa} {n:Nat} {mu:Bool} {ty:TypeId} {ti:Nat->Option TI} (a_:eM.ok P ti) {len:Nat} {ps:List (Nat×X)} {v:X} {d:aL} (h:JP n mu (cq P ty) ti len ps=some (v,d)) :
  nR P n mu ty len (mN ρ ps)=some (v.I ρ,bk ρ d):=by
 unfold JP at h
 split at h
 ·rename_i e z hs
  have cu:bE P ty=some (e,z):=hs
  split at h
  ·rename_i ie gw
   have gw:=a_ _ _ gw
   subst gw
   split at h
   ·rename_i H
    simp only[Bool.and_eq_true,Nat.ble_eq]at H
    obtain⟨A,E,h3,h4⟩:=H
    have hz:=aa1 A
    simp only[nR,cu,hz]
    rw[if_pos ⟨trivial,E,by simpa [mN]using Nat.eq_of_beq_eq_true h3,S3 h4⟩]
    cases mu with
    | false=>cases h;simp only[X.I,O2 ρ ps h4];rfl
    | true =>
     simp only at h
     split at h
     ·cases h
     ·rename_i hr
      cases h;simp only[X.I,bk,List.map_cons,List.map_nil,Option.map_some,cP (ρ:=ρ) (show b5 (e9 (v3 ps))=false by simpa using hr),qu,O2 ρ ps h4]
   ·cases h
  ·cases h
 ·cases h
def Nu (i:TI) (h:au) (B:J):X->T X
 | .ro _ D _=>if i.sl.isSome=true then .ret (.sc (.i .i64 (.lit D.length)))else(.fail [])
 | .rl _ n _ _=>if i.sl.isSome=true then want B (mkNot (mkLt n (.lit 0))) fun _ => .ret (.sc (.i .i64 n))else(.fail [])
 | .rn _ n _ _ _=>if i.sl.isSome=true then want B (mkNot (mkLt n (.lit 0))) fun _ => .ret (.sc (.i .i64 n))else(.fail [])
 | .tq _ m _ D _=>if i.sl.isSome=true then want B (mkNot (mkLt m (.lit 0))) fun _ => .ret (.sc (.i .i64 (mkAdd m (.lit D.length))))else(.fail [])
 | .sl m _ _ len _=>if(i.sl.isSome&&iu h m)=true then .ret (.sc (.i .i64 (.lit len)))else(.fail [])
 | .k (.slice _ m _)=>if i.sl.isSome=true then .ret (.sc (.i .i64 (.lit m)))else(.fail [])
 | .sc (.s t)=>if i.str=true then .ret (.sc (.i .i64 (s7 t)))else(.fail [])
 | .agg _=>match i.arr with
  | some (n,_) => .ret (.sc (.i .i64 (.lit n)))
  | none=>(.fail [])
 | _=>(.fail [])
theorem ahL {P:Program} {ρ:aa} {ty:TypeId} {h:au} {B:J} {x v:X} (u:J.ok ρ B) (R:(Nu (cq P ty) h B x).aq ρ=some v):mo (iZ P (aN ρ h) ty (x.I ρ))=some (v.I ρ):=by
 unfold Nu at R
 split at R
 ·split at R
  ·rename_i hs
   have cu:(bE P ty).isSome=true:=hs
   cases R
   simp only[X.I,iZ,cu,if_true,mo,Sc.I,U.I,X.ef,List.length_map]
  ·cases R
 ·split at R
  ·rename_i n l f hs
   have cu:(bE P ty).isSome=true:=hs
   obtain⟨_,_,A,R⟩:=cW u R
   cases R
   have A:=eH A
   simp only[U.I]at A
   have:((aV ρ n l).length:Int)=n.I ρ:=by simp only[aV,List.length_map,List.length_range];omega
   simp only[X.I,iZ,cu,if_true,mo,Sc.I,this]
  ·cases R
 ·split at R
  ·rename_i n l ks f hs
   have cu:(bE P ty).isSome=true:=hs
   obtain⟨_,_,A,R⟩:=cW u R
   cases R
   have A:=eH A
   simp only[U.I]at A
   have:((fQ ρ n l ks).length:Int)=n.I ρ:=by simp only[fQ,List.length_map,List.length_range];omega
   simp only[X.I,iZ,cu,if_true,mo,Sc.I,this]
  ·cases R
 ·split at R
  ·rename_i m t D f hs
   have cu:(bE P ty).isSome=true:=hs
   obtain⟨_,_,A,R⟩:=cW u R
   cases R
   have A:=eH A
   simp only[U.I]at A
   have:∀z,((bB ρ z m t++X.aX ρ D).length:Int)=(mkAdd m (.lit D.length)).I ρ:=fun z=>by
    rw[fe,List.length_append,we,X.ef,List.length_map]
    simp only[U.I];omega
   simp only[X.I,iZ,cu,if_true,mo,Sc.I,this]
  ·cases R
 ·split at R
  ·rename_i m z off len own hs
   simp only[Bool.and_eq_true]at hs
   have cu:(bE P ty).isSome=true:=hs.1
   cases R
   simp only[X.I,iZ,cu,jD hs.2,and_self,if_true,mo,Sc.I,U.I]
  ·cases R
 ·split at R
  ·rename_i hs
   have cu:(bE P ty).isSome=true:=hs
   cases R
   simp only[X.I,iZ,cu,if_true,mo,Sc.I,U.I]
  ·cases R
 ·split at R
  ·rename_i hs
   have cu:nt P ty=true:=hs
   cases R
   simp only[X.I,iZ,cu,if_true,mo,Sc.I,yF]
  ·cases R
 ·split at R
  ·rename_i n z hs
   have cu:er P ty=some (n,z):=hs
   cases R
   simp only[X.I,iZ,cu,Option.map_some,mo,Sc.I,U.I]
  ·cases R
 ·cases R
def N2 (a b:U):U:=if a.beq b=true then a else hQ .max .i64 a b
theorem aio (ρ:aa) (a b:U):(N2 a b).I ρ=Max.max (a.I ρ) (b.I ρ):=by
 unfold N2;split
 ·rename_i h;rw[U.beq_eq _ _ h];omega
 ·rw[ov];rfl
def N3 (a b:U):U:=if a.beq b=true then a else hQ .min .i64 a b
theorem aip (ρ:aa) (a b:U):(N3 a b).I ρ=Min.min (a.I ρ) (b.I ρ):=by
 unfold N3;split
 ·rename_i h;rw[U.beq_eq _ _ h];omega
 ·rw[ov];rfl
def B4:X->List X->Option X
 | .sc (.i k a),[]=>some (.sc (.i k a))
 | .sc (.i k a),.sc (.i _ b)::r=>B4 (.sc (.i k (N2 a b))) r
 | _,_=>none
theorem Wa {ρ:aa}:∀{l:List X} {x v:X},B4 x l=some v->py (x.I ρ) (X.af ρ l)=some (v.I ρ)
 | [],x,v,h=>by
  unfold B4 at h
  split at h
  ·cases h;simp only[X.af,X.I,Sc.I,py]
  ·contradiction
  ·cases h
 | y::r,x,v,h=>by
  unfold B4 at h
  split at h
  ·contradiction
  ·rename_i k a k' b r' G
   cases G
   have:=Wa (ρ:=ρ) h
   simp only[X.I,Sc.I,aio]at this
   simp only[X.af,X.I,Sc.I,py]
   exact this
  ·cases h
def B7:X->List X->Option X
 | .sc (.i k a),[]=>some (.sc (.i k a))
 | .sc (.i k a),.sc (.i _ b)::r=>B7 (.sc (.i k (N3 a b))) r
 | _,_=>none
theorem We {ρ:aa}:∀{l:List X} {x v:X},B7 x l=some v->pz (x.I ρ) (X.af ρ l)=some (v.I ρ)
 | [],x,v,h=>by
  unfold B7 at h
  split at h
  ·cases h;simp only[X.af,X.I,Sc.I,pz]
  ·contradiction
  ·cases h
 | y::r,x,v,h=>by
  unfold B7 at h
  split at h
  ·contradiction
  ·rename_i k a k' b r' G
   cases G
   have:=We (ρ:=ρ) h
   simp only[X.I,Sc.I,aip]at this
   simp only[X.af,X.I,Sc.I,pz]
   exact this
  ·cases h
end Go.Proofs.Xw
namespace Go.Proofs.Xw
open Go Go.Proofs.Aw
inductive Rows where
 | c (D:List (List X))
 | r (n:U) (l:RL)
noncomputable def Rows.I (ρ:aa):Rows->List (List AV)
 | .c D=>X.aX ρ D
 | .r n l=>aV ρ n l
def nT (z:Nat):Nat->List X->List (List X)
 | 0,_=>[]
 | k+1,cs=>cs.take z::nT z k (cs.drop z)
theorem w8 (ρ:aa) (z:Nat):∀(k:Nat) (cs:List X),X.aX ρ (nT z k cs)=chunk z k (X.af ρ cs)
 | 0,_=>rfl
 | k+1,cs=>by simp only[nT,X.aX,chunk,X.Kr,w8 ρ z k,X.xc]
def EN (h:au) (z:Nat):X->Option Rows
 | .ro z' D _=>if Nat.beq z' z=true then some (.c D)else none
 | .rl z' n l _=>if Nat.beq z' z=true then some (.r n l)else none
 | .sl m z' off len _=>match ph h m with
  | some cs=>if(Nat.beq z' z&&Nat.ble (off+len*z) cs.length)=true then some (.c (nT z len (cs.drop off)))else none
  | none=>none
 | .k (.slice none 0 0)=>some (.c [])
 | _=>none
theorem To {ρ:aa} {h:au} {z:Nat} {x:X} {r:Rows} (G:EN h z x=some r):et (aN ρ h) z (x.I ρ)=some (r.I ρ):=by
 unfold EN at G
 split at G
 ·split at G
  ·rename_i hz;cases G;have hz:=Nat.eq_of_beq_eq_true hz;subst hz;simp only[X.I,et,if_true,Rows.I]
  ·cases G
 ·split at G
  ·rename_i hz;cases G;have hz:=Nat.eq_of_beq_eq_true hz;subst hz;simp only[X.I,et,if_true,Rows.I]
  ·cases G
 ·split at G
  ·rename_i cs Z
   split at G
   ·rename_i hz
    cases G
    simp only[Bool.and_eq_true,Nat.ble_eq]at hz
    have BH:=Nat.eq_of_beq_eq_true hz.1
    subst BH
    simp only[X.I,et,xV Z,Option.bind_some,X.f_,Rows.I,w8,X.xc]
    rw[if_pos ⟨trivial,hz.2⟩]
   ·cases G
  ·cases G
 ·cases G;simp only[X.I,et,Rows.I,X.aX]
 ·cases G
def z2 (z:Nat):X->Option Rows
 | .ro z' D true=>if Nat.beq z' z=true then some (.c D)else none
 | .rl z' n l true=>if Nat.beq z' z=true then some (.r n l)else none
 | .k (.slice none 0 0)=>some (.c [])
 | _=>none
theorem ac3 {ρ:aa} {z:Nat} {x:X} {r:Rows} (G:z2 z x=some r):jl z (x.I ρ)=some (r.I ρ):=by
 unfold z2 at G
 split at G
 ·split at G
  ·rename_i hz;cases G;have hz:=Nat.eq_of_beq_eq_true hz;subst hz;simp only[X.I,jl,if_true,Rows.I]
  ·cases G
 ·split at G
  ·rename_i hz;cases G;have hz:=Nat.eq_of_beq_eq_true hz;subst hz;simp only[X.I,jl,if_true,Rows.I]
  ·cases G
 ·cases G;simp only[X.I,jl,Rows.I,X.aX]
 ·cases G
def oQ:List X->Option (List Sc)
 | []=>some []
 | .sc s::r=>(oQ r).map (s :: ·)
 | _=>none
theorem zr {ρ:aa}:∀{l:List X} {s:List Sc},oQ l=some s->b' ρ s=X.af ρ l
 | [],s,h=>by simp only[oQ,Option.some.injEq]at h;subst h;rfl
 | x::r,s,h=>by
  unfold oQ at h
  split at h
  ·contradiction
  ·rename_i s' r' G
   cases G
   obtain⟨t,ht,rfl⟩:=Option.map_eq_some_iff.1 h
   have:=zr (ρ:=ρ) ht
   simp only[X.af,X.I,<-this]
   rfl
  ·cases h
def oP:List (List X)->Option RL
 | []=>none
 | [e]=>(oQ e).map .one
 | e::D=>match oQ e,oP D with
  | some s,some l=>some (.app (.lit 1) (.one s) l)
  | _,_=>none
theorem ZF {ρ:aa}:∀{D:List (List X)} {l:RL},oP D=some l->∀j:Nat,j<D.length->(X.aX ρ D)[j]? = some (l.row ρ j)
 | [],_,h,_,_=>by simp[oP]at h
 | [e],l,h,j,O=>by
  simp only[oP]at h
  obtain⟨s,hs,rfl⟩:=Option.map_eq_some_iff.1 h
  obtain rfl:j=0:=by simpa using O
  simp only[X.aX,List.getElem?_cons_zero,RL.row,zr hs]
 | e::e'::D,l,h,j,O=>by
  simp only[oP]at h
  split at h
  ·rename_i s l' hs M
   cases h
   simp only[RL.row]
   cases j with
   | zero =>
    rw[if_pos (show((0:Nat):Int)<(U.lit 1).I ρ from by simp[U.I])]
    simp only[X.aX,List.getElem?_cons_zero,zr hs]
   | succ j =>
    rw[if_neg (show ¬((j+1:Nat):Int)<(U.lit 1).I ρ from by simp only[U.I];omega),show((j+1:Nat):Int)-(U.lit 1).I ρ=(j:Nat)from by simp only[U.I];omega]
    have:=ZF (ρ:=ρ) M j (by simpa using O)
    simpa only[X.aX,List.getElem?_cons_succ]using this
  ·cases h
theorem Iz {ρ:aa} {D:List (List X)} {l:RL} (h:oP D=some l):aV ρ (.lit D.length) l=X.aX ρ D:=by
 apply List.ext_getElem?
 intro j
 by_cases O:j<D.length
 ·rw[ZF h j O,mD (by simp only[U.I];omega)]
 ·rw[List.getElem?_eq_none (by simp[aV,U.I];omega),List.getElem?_eq_none (by simp[X.ef];omega)]
theorem Px {ρ:aa} {n m:U} {a b:RL} (hn:0<=n.I ρ) (hm:0<=m.I ρ):aV ρ (mkAdd n m) (.app n a b)=aV ρ n a++aV ρ m b:=by
 apply List.ext_getElem?
 intro j
 obtain⟨x,hx⟩:∃x:Nat,n.I ρ=x:=⟨(n.I ρ).toNat,by omega⟩
 obtain⟨y,hy⟩:∃y:Nat,m.I ρ=y:=⟨(m.I ρ).toNat,by omega⟩
 have M:(aV ρ n a).length=x:=by simp[aV,hx]
 by_cases A:j<x
 ·rw[List.getElem?_append_left (by omega),mD (by rw[fe];omega),mD (by omega)]
  simp only[RL.row,hx]
  rw[if_pos (by omega)]
 ·rw[List.getElem?_append_right (by omega),M]
  by_cases E:j<x+y
  ·rw[mD (by rw[fe];omega),mD (by omega)]
   simp only[RL.row,hx]
   rw[if_neg (by omega),show(j:Int)-x=(j-x:Nat)from by omega]
  ·rw[List.getElem?_eq_none (by simp[aV,fe,hx,hy];omega),List.getElem?_eq_none (by simp[aV,hy];omega)]
def Rows.len:Rows->U
 | .c D => .lit D.length
 | .r n _=>n
def Eo:Rows->Rows->Option Rows
 | .c D,.c fs=>some (.c (D++fs))
 | .r n l,.c []=>some (.r n l)
 | .c [],.r n l=>some (.r n l)
 | .r n l,.c fs=>(oP fs).map fun m => .r (mkAdd n (.lit fs.length)) (.app n l m)
 | .c D,.r n l=>(oP D).map fun m => .r (mkAdd (.lit D.length) n) (.app (.lit D.length) m l)
 | .r n l,.r m k=>some (.r (mkAdd n m) (.app n l k))
theorem Rows.BW {ρ:aa} {a:Rows} (h:0<=a.len.I ρ):((a.I ρ).length:Int)=a.len.I ρ:=by
 cases a with
 | c D=>simp[Rows.I,Rows.len,X.ef,U.I]
 | r n l=>simp only[Rows.len]at h;simp only[Rows.I,Rows.len,aV,List.length_map,List.length_range];omega
theorem Sf {ρ:aa} {a b c:Rows} (ha:0<=a.len.I ρ) (hb:0<=b.len.I ρ) (h:Eo a b=some c):c.I ρ=a.I ρ++b.I ρ:=by
 unfold Eo at h
 split at h
 ·cases h;simp[Rows.I,X.ef]
 ·cases h;simp[Rows.I,X.aX]
 ·cases h;simp[Rows.I,X.aX]
 ·obtain⟨m,hm,rfl⟩:=Option.map_eq_some_iff.1 h
  simp only[Rows.I,<-Iz hm]
  exact Px ha hb
 ·obtain⟨m,hm,rfl⟩:=Option.map_eq_some_iff.1 h
  simp only[Rows.I,<-Iz hm]
  exact Px ha hb
 ·cases h
  exact Px ha hb
def z9 (b:Nat):Nat:=Nat.min (140737488355328 / b) 9223372036854775807
theorem Em {b n:Nat} (h:n<=z9 b):n*b<=140737488355328/\n<=9223372036854775807:=by
 have A:n<=140737488355328 / b:=Nat.le_trans h (Nat.min_le_left _ _)
 have E:n<=9223372036854775807:=Nat.le_trans h (Nat.min_le_right _ _)
 exact⟨Nat.mul_le_of_le_div b n _ A,E⟩
def Rows.ro (z:Nat):Rows->X
 | .c D => .ro z D false
 | .r n l => .rl z n l false
theorem Rows.X6 (ρ:aa) (z:Nat) (a:Rows):(a.ro z).I ρ = .ro z (a.I ρ) false:=by cases a<;>rfl
def vS {an:Type} (B:J) (a b:Rows) (kU:Nat) (k:J->T an):T an :=
 want B (mkNot (mkLt a.len (.lit 0))) fun B=>want B (mkNot (mkLt b.len (.lit 0))) fun B=>want B (mkNot (mkLt (.lit (z9 kU)) (mkAdd a.len b.len))) k
theorem zj {an:Type} {ρ:aa} {B:J} {a b:Rows} {kU:Nat} {k:J->T an} {x:an} (u:J.ok ρ B) (h:(vS B a b kU k).aq ρ=some x) :
  ∃aS,J.ok ρ aS/\0<=a.len.I ρ/\0<=b.len.I ρ/\((a.I ρ).length+(b.I ρ).length)*kU<=140737488355328/\(a.I ρ).length+(b.I ρ).length<=9223372036854775807/\(k aS).aq ρ=some x:=by
 obtain⟨fd,bp,c1,h⟩:=cW u h
 obtain⟨lw,dO,c2,h⟩:=cW bp h
 obtain⟨zJ,qC,c3,h⟩:=cW dO h
 have c1:=eH c1
 have c2:=eH c2
 have c3:=eH c3
 rw[fe]at c3
 simp only[U.I]at c1 c2 c3
 have l1:=Rows.BW (ρ:=ρ) (a:=a) (by omega)
 have l2:=Rows.BW (ρ:=ρ) (a:=b) (by omega)
 have:=Em (b:=kU) (n:=(a.I ρ).length+(b.I ρ).length) (by omega)
 exact⟨zJ,qC,by omega,by omega,this.1,this.2,h⟩
def Jz (n z b:Nat) (m:Nm) (w off len:Nat) (own:Bool) (cs:List X) (fs:List (List X)):Option (X×aL) :=
 if(!b5 (cs.drop off++e9 fs)&&(Nat.beq w z&&(own&&(Nat.beq cs.length (off+len*z)&&((e9 fs).all X.one&&Nat.ble (len+fs.length) (z9 b))))))=true then
  some (.sl (n,0) z 0 (len+fs.length) true,[(m,none),((n,0),some (cs.drop off++e9 fs))])else none
theorem acE {P:Program} {ρ:aa} {n z:Nat} {m:Nm} {w off len:Nat} {own mu:Bool} {e:TypeId} {h:au} {cs:List X} {fs:List (List X)} {r:X×aL} (Z:ph h m=some cs) (R:Jz n z (de P e) m w off len own cs fs=some r) :
  jk P n (aN ρ h) mu e z (.sl m w off len own) (some (X.aX ρ fs))=some (r.1.I ρ,bk ρ r.2):=by
 unfold Jz at R
 split at R
 ·rename_i j7
  simp only[Bool.and_eq_true,Nat.ble_eq]at j7
  obtain⟨k9,g1,g3,g4,g5,g6⟩:=j7
  have k9:b5 (cs.drop off++e9 fs)=false:=by simpa using k9
  have g1:=Nat.eq_of_beq_eq_true g1
  have g4:=Nat.eq_of_beq_eq_true g4
  subst g1
  cases R
  have kc:(X.aX ρ fs).length=fs.length:=by simp[X.ef]
  have f2:=Em g6
  simp only[jk,xV Z,uo,X.f_,kc]
  rw[if_pos ⟨trivial,g3⟩,if_pos ⟨g4,by rw[<-qu];exact X.nL ρ _ g5,f2.1,f2.2⟩]
  simp only[X.I,bk,List.map_cons,List.map_nil,Option.map_some,Option.map_none,cP k9,X.gp,qu,X.xc]
 ·cases R
def za (n z:Nat) (d:aL) (D fs:Rows):Option (X×aL) :=
 match Eo D fs with
 | some (.r N L)=>if(L.wd z&&(N.beq (mkAdd D.len fs.len)))=true then some (.slv (n,0) z (.lit 0) N true,d++[((n,0),some [.rows z N L])])else none
 | _=>none
theorem HT {ρ:aa} {n z:Nat} {d:aL} {D fs:Rows} {r:X×aL} (la:0<=D.len.I ρ) (lm:0<=fs.len.I ρ) (R:za n z d D fs=some r) :
  (r.1.I ρ,bk ρ r.2)=(.sl (n,0) z 0 ((D.I ρ).length+(fs.I ρ).length) true,bk ρ d++[((n,0),some ((D.I ρ).flatten++(fs.I ρ).flatten))]):=by
 unfold za at R
 split at R
 ·rename_i N L L1
  split at R
  ·rename_i H
   simp only[Bool.and_eq_true]at H
   cases R
   have A:aV ρ N L=D.I ρ++fs.I ρ:=Sf la lm L1
   have E:=Rows.BW la
   have h3:=Rows.BW lm
   have h4:=U.beq_eq _ _ H.2
   have h5:(N.I ρ).toNat=(D.I ρ).length+(fs.I ρ).length:=by rw[h4,fe];omega
   simp only[X.I,U.I,h5,bk,List.map_append,List.map_cons,List.map_nil,Option.map_some,aA,A,List.flatten_append]
   simp
  ·cases R
 ·cases R
def RY (n z b:Nat) (D fs:List (List X)):Option (X×aL) :=
 if(!b5 (e9 D++e9 fs)&&(Nat.ble (D.length+fs.length) (z9 b)&&Nat.blt 0 fs.length))=true then some (.sl (n,0) z 0 (D.length+fs.length) true,[((n,0),some (e9 D++e9 fs))])else none
def Jw (n:Nat) (mu:Bool) (z b:Nat) (B:J) (D fs:Rows):T (X×aL) :=
 match mu with
 | false=>vS B D fs b fun _=>eI ((Eo D fs).map fun r=>(r.ro z,[]))
 | true=>match D,fs with
  | .c D,.c fs=>eI (RY n z b D fs)
  | D,fs=>vS B D fs b fun B=>want B (mkLt (.lit 0) fs.len) fun _=>eI (za n z [] D fs)
theorem acA {ρ:aa} {n z b:Nat} {mu:Bool} {B:J} (u:J.ok ρ B) {D fs:Rows} {r:X×aL} (R:(Jw n mu z b B D fs).aq ρ=some r):nM n mu z b (fs.I ρ) (some (D.I ρ))=some (r.1.I ρ,bk ρ r.2):=by
 unfold Jw at R
 split at R
 ·obtain⟨aS,_,la,lm,c1,c2,R⟩:=zj u R
  obtain⟨c,L1,rfl⟩:=Option.map_eq_some_iff.1 (e5 R)
  simp only[nM]
  rw[if_pos ⟨c1,c2,fun W=>(nomatch W)⟩,Rows.X6,Sf la lm L1]
  rfl
 ·split at R
  ·rename_i D fs
   have R:=e5 R
   unfold RY at R
   split at R
   ·rename_i j7
    simp only[Bool.and_eq_true,Nat.ble_eq]at j7
    have k9:b5 (e9 D++e9 fs)=false:=by simpa using j7.1
    have j7:=j7.2
    cases R
    have sG:(X.aX ρ D).length=D.length:=by simp[X.ef]
    have kc:(X.aX ρ fs).length=fs.length:=by simp[X.ef]
    have f2:=Em j7.1
    have kf:0<fs.length:=by simpa [Nat.blt_eq]using j7.2
    simp only[nM,Rows.I,sG,kc]
    rw[if_pos ⟨f2.1,f2.2,fun _ W=>by rw[<-kc,W]at kf;simp at kf⟩]
    simp only[X.I,bk,List.map_cons,List.map_nil,Option.map_some,cP k9,X.gp,qu]
   ·cases R
  ·obtain⟨aS,aO,la,lm,c1,c2,R⟩:=zj u R
   obtain⟨lw,_,c3,R⟩:=cW aO R
   rw[gW]at c3
   have c3:=of_decide_eq_true c3
   simp only[U.I]at c3
   have M:=Rows.BW (ρ:=ρ) lm
   simp only[nM]
   rw[if_pos ⟨c1,c2,fun _ W=>by rw[W]at M;simp at M;omega⟩]
   have:=e5 R
   rw[HT la lm this]
   rfl
def HU:Rows->Bool
 | .c D=>(e9 D).all X.one
 | .r _ _=>true
theorem Y0 (ρ:aa) (r:List Sc):(b' ρ r).all AV.one=true:=by
 unfold b'
 rw[List.all_eq_true]
 intro x hx
 obtain⟨s,_,rfl⟩:=List.mem_map.1 hx
 cases s<;>rfl
theorem Et (ρ:aa) (l j:Nat):∀(ks:List Kd) (k:Nat),(bH ρ l k ks j).all AV.one=true
 | [],_=>rfl
 | .i _::ks,k=>by simp only[bH,List.all_cons,Et ρ l j ks (k+1),Bool.and_true];rfl
 | .b::ks,k=>by simp only[bH,List.all_cons,Et ρ l j ks (k+1),Bool.and_true];rfl
 | .s::ks,k=>by simp only[bH,List.all_cons,Et ρ l j ks (k+1),Bool.and_true];rfl
theorem row_one (ρ:aa):∀(l:RL) (j:Int),(l.row ρ j).all AV.one=true
 | .var l ks,j=>Et ρ l _ ks 0
 | .one r,j=>Y0 ρ r
 | .app n a b,j=>by
  simp only[RL.row]
  split
  ·exact row_one ρ a _
  ·exact row_one ρ b _
 | .drop n a,j=>row_one ρ a _
 | .eL i r a,j=>by
  simp only[RL.row]
  split
  ·exact Y0 ρ r
  ·exact row_one ρ a _
 | .ite c a b,j=>by
  simp only[RL.row]
  split
  ·exact row_one ρ a _
  ·exact row_one ρ b _
theorem Py {ρ:aa} {fs:Rows} (h:HU fs=true):(fs.I ρ).flatten.all AV.one=true:=by
 cases fs with
 | c D=>simp only[Rows.I,<-qu];exact X.nL ρ _ h
 | r n l =>
  simp only[Rows.I,aV]
  rw[List.all_eq_true]
  intro x hx
  obtain⟨r,hr,hx⟩:=List.mem_flatten.1 hx
  obtain⟨j,_,rfl⟩:=List.mem_map.1 hr
  exact List.all_eq_true.1 (row_one ρ l j) x hx
def y' (h:au) (m:Nm):Option (Nat×U×RL):=match bg h m with
 | some [.rows z n l]=>if l.wd z=true then some (z,n,l)else none
 | _=>none
theorem HS {ρ:aa} {h:au} {m:Nm} {z:Nat} {n:U} {l:RL} (hr:y' h m=some (z,n,l)):ae (aN ρ h) m=some (aV ρ n l).flatten/\l.wd z=true:=by
 unfold y' at hr
 split at hr
 ·rename_i z' n' l' Z
  split at hr
  ·rename_i hw
   cases hr
   exact⟨by rw[cG,Z];rfl,hw⟩
  ·cases hr
 ·cases hr
theorem CF {ρ:aa} {n:U} {l:RL} {z:Nat} (hw:l.wd z=true) (j:Nat) (e:List AV) (h:(aV ρ n l)[j]? = some e):e.length=z:=by
 unfold aV at h
 rw[List.getElem?_map]at h
 obtain⟨k,_,rfl⟩:=Option.map_eq_some_iff.1 h
 exact RL.tT hw
theorem pR (ρ:aa) (n:U) (l:RL):(aV ρ n l).length=(n.I ρ).toNat:=by simp[aV]
theorem wc {ρ:aa} {n:U} {l:RL} {z:Nat} (hw:l.wd z=true):(aV ρ n l).flatten.length=(n.I ρ).toNat*z:=by
 rw[gQ _ (fun j e h=>CF hw j e h),pR]
theorem E9 {ρ:aa} {n:U} {l:RL} {z j:Nat} (hw:l.wd z=true) (O:(j:Int)<n.I ρ) {k:Nat} (u:k<z):(aV ρ n l).flatten[j*z+k]? = (l.row ρ j)[k]? :=
 AS _ (fun j e h=>CF hw j e h) j _ (mD O) k u
theorem row_in {j m z:Nat} (h:j<m):j*z+z<=m*z:=by rw[<-Nat.succ_mul];exact Nat.mul_le_mul_right z h
theorem ae3 {ρ:aa} {n:U} {l:RL} {z j:Nat} (hw:l.wd z=true) (O:(j:Int)<n.I ρ) {o s:Nat} (ho:o+s<=z):((aV ρ n l).flatten.drop (j*z+o)).take s=((l.row ρ j).drop o).take s:=by
 apply List.ext_getElem?
 intro i
 rw[List.getElem?_take,List.getElem?_take]
 split
 ·rename_i hi
  rw[List.getElem?_drop,List.getElem?_drop,Nat.add_assoc,E9 hw O (by omega)]
 ·rfl
theorem aph {ρ:aa} {n:U} {l:RL} {z j:Nat} (hw:l.wd z=true) (O:(j:Int)<n.I ρ) {o s:Nat} (ho:o+s<=z) (hz:o<z) (b:Option Bool) {v:AV} (h:jJ b s (l.row ρ j) o=some v):jJ b s (aV ρ n l).flatten (j*z+o)=some v:=by
 match b,h with
 | some true,h =>
  simp only[jJ]at h ⊢
  split at h
  ·rename_i H
   have:=row_in (z:=z) (show j<(n.I ρ).toNat by omega)
   rw[if_pos ⟨H.1,by rw[wc hw];omega⟩,ae3 hw O ho]
   exact h
  ·cases h
 | some false,h =>
  simp only[jJ]at h ⊢
  rw[E9 hw O hz];exact h
theorem PA {ρ:aa} {z:Nat} {m:U} {t:Nat} (j:Nat) (e:List AV) (h:(bB ρ z m t)[j]? = some e):e.length=z:=by
 unfold bB at h
 rw[List.getElem?_map]at h
 obtain⟨k,_,rfl⟩:=Option.map_eq_some_iff.1 h
 rw[List.length_map,List.length_range]
theorem QA {ρ:aa} {z:Nat} {m:U} {t:Nat} {D:List (List X)} (h:D.all (fun e=>Nat.beq e.length z)=true) (j:Nat) (e:List AV) (O:(bB ρ z m t++X.aX ρ D)[j]? = some e):e.length=z:=by
 by_cases c:j<(bB ρ z m t).length
 ·rw[List.getElem?_append_left c]at O
  exact PA j e O
 ·rw[List.getElem?_append_right (by omega),X.ef,List.getElem?_map]at O
  obtain⟨r,hr,rfl⟩:=Option.map_eq_some_iff.1 O
  rw[X.f_]
  exact Nat.eq_of_beq_eq_true (List.all_eq_true.1 h r (List.mem_of_getElem? hr))
theorem Yk {ρ:aa} {z:Nat} {m:U} {t:Nat}:(bB ρ z m t).flatten.length=(m.I ρ).toNat*z:=by
 rw[gQ _ (fun j e h=>PA j e h)]
 unfold bB;rw[List.length_map,List.length_range]
theorem Lu {ρ:aa} {z:Nat} {m:U} {t j:Nat} (O:(j:Int)<m.I ρ) {k:Nat} (u:k<z):(bB ρ z m t).flatten[j*z+k]? = some (ρ.ct t k j).1:=by
 rw[AS _ (fun j e h=>PA j e h) j _ (Pz O) k u,List.getElem?_map,List.getElem?_range u];rfl
def loadT (i:TI) (h:au) (B:J) (m:Nm) (z:Nat) (j:U) (o:Nat):T X :=
 match bg h m with
 | some [.tk z' n t []]=>if(Nat.beq z' z&&(Nat.ble (o+i.cells) z&&Nat.blt o z))=true then
   gT B j n fun _=>eI (tp i.agg i.cells (qh z t j) o)
  else (.fail ["loadT"])
 | _ => (.fail ["rowsAt"])
theorem ahS {P:Program} {ρ:aa} {ty:TypeId} {h:au} {B:J} {m:Nm} {z:Nat} {j:U} {o:Nat} {v:X} (u:J.ok ρ B) (R:(loadT (cq P ty) h B m z j o).aq ρ=some v):oo P (aN ρ h) ty ((X.du m z j o).I ρ)=some (v.I ρ):=by
 unfold loadT at R
 split at R
 ·rename_i z' n t Z
  split at R
  ·rename_i H
   simp only[Bool.and_eq_true,Nat.ble_eq,Nat.blt_eq]at H
   have hz:=Nat.eq_of_beq_eq_true H.1
   subst hz
   obtain⟨aS,q,aO,G,O,R⟩:=lG u R
   have A:=y3 (ρ:=ρ) (e5 R)
   rw[JT,G,Int.toNat_natCast]at A
   have ae:ae (aN ρ h) m=some (bB ρ z' n t).flatten:=by rw[cG,Z];simp only[Option.map_some,aA,X.aX,List.append_nil]
   have ii:(cq P ty).cells=P.cellsOf ty:=rfl
   have LU:(cq P ty).agg=eT P ty:=rfl
   obtain⟨_,eW,j6⟩:=H
   rw[ii,LU]at A
   rw[ii]at eW
   simp only[X.I,oo,ae,HC,G,Int.toNat_natCast]
   have co:=row_in (z:=z') (show q<(n.I ρ).toNat by omega)
   have hD:=Yk (ρ:=ρ) (z:=z') (m:=n) (t:=t)
   match hb:eT P ty,A with
   | some true,A =>
    simp only[jJ]at A ⊢
    split at A
    ·rename_i dz
     rw[if_pos ⟨dz.1,by rw[hD];omega⟩,<-A]
     congr 2
     apply List.ext_getElem?
     intro i
     rw[List.getElem?_take,List.getElem?_take]
     split
     ·rename_i hi
      rw[List.getElem?_drop,List.getElem?_drop,Nat.add_assoc,Lu O (by omega),List.getElem?_map,List.getElem?_range (by omega)];rfl
     ·rfl
    ·cases A
   | some false,A =>
    simp only[jJ]at A ⊢
    rw[List.getElem?_map,List.getElem?_range j6]at A
    rw[Lu O j6];exact A
  ·cases R
 ·cases R
def ND (i:TI) (h:au) (B:J) (m:Nm) (z:Nat) (j:U) (o:Nat):T X :=
 match y' h m with
 | some (z',n,l)=>if(Nat.beq z' z&&(Nat.ble (o+i.cells) z&&Nat.blt o z))=true then
   gT B j n fun B=>match l.gu B j with
    | some r=>eI (tp i.agg i.cells (Cm r) o)
    | none => (.fail ["row"])
  else (.fail ["loadV"])
 | none=>loadT i h B m z j o
theorem ahT {P:Program} {ρ:aa} {ty:TypeId} {h:au} {B:J} {m:Nm} {z:Nat} {j:U} {o:Nat} {v:X} (u:J.ok ρ B) (R:(ND (cq P ty) h B m z j o).aq ρ=some v):oo P (aN ρ h) ty ((X.du m z j o).I ρ)=some (v.I ρ):=by
 unfold ND at R
 split at R
 ·rename_i z' n l hr
  split at R
  ·rename_i H
   simp only[Bool.and_eq_true,Nat.ble_eq,Nat.blt_eq]at H
   have hz:=Nat.eq_of_beq_eq_true H.1
   subst hz
   obtain⟨aS,t,aO,G,O,R⟩:=lG u R
   obtain⟨Z,hw⟩:=HS (ρ:=ρ) hr
   split at R
   ·rename_i r ae
    have A:=y3 (ρ:=ρ) (e5 R)
    rw[OJ,RL.k_ aO ae,G]at A
    have ii:(cq P ty).cells=P.cellsOf ty:=rfl
    have LU:(cq P ty).agg=eT P ty:=rfl
    rw[ii,LU]at A
    simp only[X.I,oo,Z,HC,G,Int.toNat_natCast]
    exact aph hw O (by have:=H.2.1;rw[ii]at this;exact this) H.2.2 _ A
   ·cases R
  ·cases R
 ·exact ahS u R
def GD (j:U) (r:List Sc):RL->RL
 | .eL i q a=>if i.beq j=true then .eL j r a else .eL j r (.eL i q a)
 | a => .eL j r a
theorem aiq (ρ:aa) (j:U) (r:List Sc) (a:RL) (k:Int):(GD j r a).row ρ k=if k=j.I ρ then b' ρ r else a.row ρ k:=by
 unfold GD
 split
 ·split
  ·rename_i i q b hb
   have:=U.beq_eq _ _ hb
   subst this
   simp only[RL.row]
   split<;>rfl
  ·rfl
 ·rfl
theorem P' {cs ys:List AV} {o:Nat} (ho:o<=cs.length) (i:Nat):(fT cs o ys)[i]? = if i<o then cs[i]? else if i<o+ys.length then ys[i-o]? else cs[i]? := by
 unfold fT
 have M:(cs.take o).length=o:=by rw[List.length_take];omega
 by_cases A:i<o
 ·rw[List.getElem?_append_left (by omega),List.getElem?_take,if_pos A,if_pos A]
 ·rw[List.getElem?_append_right (by omega),M,if_neg A]
  by_cases E:i<o+ys.length
  ·rw[List.getElem?_append_left (by omega),if_pos E]
  ·rw[List.getElem?_append_right (by omega),if_neg E,List.getElem?_drop,show o+ys.length+(i-o-ys.length)=i from by omega]
theorem ard {ρ:aa} {n:U} {l:RL} {z j:Nat} (hw:l.wd z=true) (O:(j:Int)<n.I ρ) {o:Nat} {ys:List AV} (ho:o+ys.length<=z) {m:RL} (FH:m.wd z=true)
  (hm:∀k:Int,m.row ρ k=if k=j then fT (l.row ρ j) o ys else l.row ρ k):fT (aV ρ n l).flatten (j*z+o) ys=(aV ρ n m).flatten:=by
 have co:=row_in (z:=z) (show j<(n.I ρ).toNat by omega)
 have j3:=wc (ρ:=ρ) (n:=n) hw
 have j5:=wc (ρ:=ρ) (n:=n) FH
 apply List.ext_getElem?
 intro i
 rw[P' (by omega)]
 by_cases hi:i<(n.I ρ).toNat*z
 ·have hz:0<z:=by
   rcases Nat.eq_zero_or_pos z with h0 | h0
   ·subst h0;simp at hi
   ·exact h0
  obtain⟨q,k,u,rfl⟩:∃q k,k<z/\i=q*z+k:=⟨i / z,i % z,Nat.mod_lt _ hz,by rw[Nat.mul_comm];exact(Nat.div_add_mod i z).symm⟩
  have hq:(q:Int)<n.I ρ:=by
   have:q<(n.I ρ).toNat:=by
    rcases Nat.lt_or_ge q (n.I ρ).toNat with h | h
    ·exact h
    ·have:=Nat.mul_le_mul_right z h;omega
   omega
  rw[E9 FH hq u,hm,E9 hw hq u]
  by_cases hqj:q=j
  ·subst hqj
   rw[if_pos rfl,P' (by rw[RL.tT hw];omega)]
   by_cases A:k<o
   ·rw[if_pos (by omega),if_pos A]
   ·rw[if_neg (by omega),if_neg A]
    by_cases E:k<o+ys.length
    ·rw[if_pos (by omega),if_pos E,show q*z+k-(q*z+o)=k-o from by omega]
    ·rw[if_neg (by omega),if_neg E]
  ·rw[if_neg (show ¬((q:Nat):Int)=j by omega)]
   rcases Nat.lt_or_ge q j with h | h
   ·have:=row_in (z:=z) h
    rw[if_pos (by omega)]
   ·have:=row_in (z:=z) (show j<q by omega)
    rw[if_neg (by omega),if_neg (by omega)]
 ·rw[if_neg (by omega),if_neg (by omega),List.getElem?_eq_none (by omega),List.getElem?_eq_none (by omega)]
def storeT (i:TI) (h:au) (B:J) (m:Nm) (z:Nat) (j:U) (o:Nat) (ys:List X):T aL :=
 match bg h m with
 | some [.tk z' n t []]=>match ys with
  | [.cJ t' o' j']=>if(Nat.beq z' z&&(Nat.blt o z&&(Nat.beq i.cells 1&&(Nat.beq t' t&&(Nat.beq o' o&&j'.beq j)))))=true then
    gT B j n fun _ => .ret [(m,some [.tk z n t []])]
   else (.fail ["storeT"])
  | _ => (.fail ["storeT"])
 | _ => (.fail ["rowsAt"])
theorem arq {P:Program} {ρ:aa} {ty:TypeId} {h:au} {B:J} {m:Nm} {z:Nat} {j:U} {o:Nat} {ys:List X} {d:aL} (u:J.ok ρ B) (R:(storeT (cq P ty) h B m z j o ys).aq ρ=some d) :
  ys.all X.one=true/\pV P (aN ρ h) ty ((X.du m z j o).I ρ) (X.af ρ ys)=some (bk ρ d):=by
 unfold storeT at R
 split at R
 ·rename_i z' n t Z
  split at R
  ·rename_i t' o' j'
   split at R
   ·rename_i H
    simp only[Bool.and_eq_true,Nat.blt_eq]at H
    obtain⟨g1,g2,g3,g4,g5,g6⟩:=H
    have g1:=Nat.eq_of_beq_eq_true g1
    have g3:=Nat.eq_of_beq_eq_true g3
    have g4:=Nat.eq_of_beq_eq_true g4
    have g5:=Nat.eq_of_beq_eq_true g5
    have g6:=U.beq_eq _ _ g6
    subst g1 g4 g5 g6
    obtain⟨aS,q,aO,G,O,R⟩:=lG u R
    cases R
    have gy:[X.cJ t' o' j'].all X.one=true:=rfl
    refine⟨gy,?_⟩
    have ae:ae (aN ρ h) m=some (bB ρ z' n t').flatten:=by rw[cG,Z];simp only[Option.map_some,aA,X.aX,List.append_nil]
    have ii:P.cellsOf ty=1:=g3
    have co:=row_in (z:=z') (show q<(n.I ρ).toNat by omega)
    have hD:=Yk (ρ:=ρ) (z:=z') (m:=n) (t:=t')
    simp only[X.I,pV,ae,wG,G,Int.toNat_natCast,ii]
    rw[if_pos ⟨by omega,rfl,by rw[hD];omega,X.nL ρ _ gy⟩]
    simp only[bk,List.map_cons,List.map_nil,Option.map_some,aA,X.aX,List.append_nil]
    congr 4
    apply List.ext_getElem?
    intro i
    have M:(X.af ρ [X.cJ t' o' j']).length=1:=rfl
    rw[P' (by rw[hD];omega),M]
    split
    ·rfl
    ·split
     ·have:i=q*z'+o':=by omega
      subst this
      rw[Nat.sub_self,Lu O g2]
      simp only[X.af,X.I,G,Int.toNat_natCast];rfl
     ·rfl
   ·cases R
  ·cases R
 ·cases R
def Qg (i:TI) (h:au) (B:J) (m:Nm) (z:Nat) (j:U) (o:Nat) (ys:List X):T aL :=
 match y' h m with
 | some (z',n,l)=>if(Nat.beq z' z&&(Nat.ble (o+i.cells) z&&(Nat.beq ys.length i.cells&&(Nat.blt 0 i.cells&&ys.all X.one))))=true then
   gT B j n fun B=>match l.gu B j with
    | some r=>match oQ (tI (Cm r) o ys)with
     | some r' => if (GD j r' l).wd z = true then .ret [(m, some [.rows z n (GD j r' l)])] else (.fail ["wd"])
     | none => (.fail ["scs"])
    | none => (.fail ["row"])
  else (.fail ["storeV"])
 | none=>storeT i h B m z j o ys
theorem ars {P:Program} {ρ:aa} {ty:TypeId} {h:au} {B:J} {m:Nm} {z:Nat} {j:U} {o:Nat} {ys:List X} {d:aL} (u:J.ok ρ B) (R:(Qg (cq P ty) h B m z j o ys).aq ρ=some d) :
  ys.all X.one=true/\pV P (aN ρ h) ty ((X.du m z j o).I ρ) (X.af ρ ys)=some (bk ρ d):=by
 unfold Qg at R
 split at R
 ·rename_i z' n l hr
  split at R
  ·rename_i H
   simp only[Bool.and_eq_true,Nat.ble_eq,Nat.blt_eq]at H
   obtain⟨hz,A,E,h3,h4⟩:=H
   have hz:=Nat.eq_of_beq_eq_true hz
   subst hz
   have E:=Nat.eq_of_beq_eq_true E
   have ii:(cq P ty).cells=P.cellsOf ty:=rfl
   rw[ii]at A E h3
   obtain⟨aS,t,aO,G,O,R⟩:=lG u R
   obtain⟨Z,hw⟩:=HS (ρ:=ρ) hr
   split at R
   ·rename_i r ae
    split at R
    ·rename_i r' hs
     split at R
     ·rename_i FH
      cases R
      refine⟨h4,?_⟩
      simp only[X.I,pV,Z,wG,X.f_,G,Int.toNat_natCast]
      have co:=row_in (z:=z') (show t<(n.I ρ).toNat by omega)
      rw[if_pos ⟨h3,E,by rw[wc hw];omega,X.nL ρ _ h4⟩]
      have x3:b' ρ r'=fT (l.row ρ t) o (X.af ρ ys):=by
       rw[zr hs,Ij,OJ,RL.k_ aO ae,G]
      rw[ard hw O (by rw[X.f_];omega) FH (fun k=>by rw[aiq,G,x3])]
      rfl
     ·cases R
    ·cases R
   ·cases R
  ·cases R
 ·exact arq u R
def MV (i:TI) (h:au) (B:J) (m:Nm) (z:Nat) (off len e:U):T X :=
 match i.sl with
 | some (_, z') => if (Nat.beq z' z && iu h m) = true then want B (mkNot (mkLt off (.lit 0))) fun B => gT B e len fun _ => .ret (.du m z (mkAdd off e) 0) else (.fail ["idxV"])
 | none => (.fail ["idxV"])
theorem agI {P:Program} {ρ:aa} {ty:TypeId} {h:au} {B:J} {m:Nm} {z:Nat} {off len e:U} {own:Bool} {k:IntKind} {v:X} (u:J.ok ρ B) (R:(MV (cq P ty) h B m z off len e).aq ρ=some v) :
  jy P (aN ρ h) ty ((X.slv m z off len own).I ρ) (.sc (.int k (e.I ρ)))=some (v.I ρ):=by
 unfold MV at R
 split at R
 ·rename_i ee z' hs
  have cu:bE P ty=some (ee,z'):=hs
  split at R
  ·rename_i H
   simp only[Bool.and_eq_true]at H
   have hz:=Nat.eq_of_beq_eq_true H.1
   subst hz
   obtain⟨fd,bp,c1,R⟩:=cW u R
   obtain⟨aS,t,_,G,O,R⟩:=lG bp R
   cases R
   have c1:=eH c1
   simp only[U.I]at c1
   simp only[X.I,jy,FR,cu,jD H.2,G,Int.toNat_natCast,fe]
   rw[if_pos ⟨trivial,trivial,by omega,by omega⟩]
   simp only[Nat.add_zero]
   congr 2
   rw[show(off.I ρ+(t:Int)).toNat=(off.I ρ).toNat+t from by omega,Nat.add_mul]
  ·cases R
 ·cases R
def P9 (i:TI) (h:au) (B:J) (m:Nm) (z:Nat) (off len:U) (own:Bool) (lo hi:U):T X :=
 match i.sl with
 | some (_,z')=>if(Nat.beq z' z&&iu h m)=true then
   want B (mkNot (mkLt off (.lit 0))) fun B=>want B (mkNot (mkLt lo (.lit 0))) fun B=>want B (mkNot (mkLt (mkSub hi lo) (.lit 0))) fun B=>want B (mkNot (mkLt len hi)) fun _ =>
    .ret (.slv m z (mkAdd off lo) (mkSub hi lo) own)
  else (.fail ["sliceV"])
 | none => (.fail ["sliceV"])
theorem aq9 {P:Program} {ρ:aa} {ty:TypeId} {h:au} {B:J} {m:Nm} {z:Nat} {off len:U} {own:Bool} {lo hi:Option X} {l r:U} {v:X} (u:J.ok ρ B) (M:nQ lo (.lit 0)=some l) (hr:nQ hi len=some r)
  (R:(P9 (cq P ty) h B m z off len own l r).aq ρ=some v):pT P (aN ρ h) ty ((X.slv m z off len own).I ρ) (lo.map (X.I ρ)) (hi.map (X.I ρ)) none=some (v.I ρ):=by
 unfold P9 at R
 split at R
 ·rename_i ee z' hs
  have cu:bE P ty=some (ee,z'):=hs
  split at R
  ·rename_i H
   simp only[Bool.and_eq_true]at H
   have hz:=Nat.eq_of_beq_eq_true H.1
   subst hz
   obtain⟨fd,bp,c1,R⟩:=cW u R
   obtain⟨lw,dO,c2,R⟩:=cW bp R
   obtain⟨zJ,qC,c3,R⟩:=cW dO R
   obtain⟨auh,hk4,dx,R⟩:=cW qC R
   cases R
   have c1:=eH c1
   have c2:=eH c2
   have c3:=eH c3
   have dx:=eH dx
   rw[nc]at c3
   simp only[U.I]at c1 c2 c3
   obtain⟨a,iJ⟩:∃a:Nat,l.I ρ=a:=⟨(l.I ρ).toNat,by omega⟩
   obtain⟨b,iM⟩:∃b:Nat,r.I ρ=b:=⟨(r.I ρ).toNat,by omega⟩
   have e1:=kS (ρ:=ρ) M (d8:=0) (by simp[U.I]) iJ
   have e2:=kS (ρ:=ρ) hr (d8:=(len.I ρ).toNat) (by omega) iM
   simp only[pT,e1,X.I,kM,e2,rE,cu,jD H.2]
   rw[if_pos ⟨trivial,trivial,by omega,by omega⟩]
   simp only[fe,nc,iJ,iM,Option.some.injEq,AV.sl.injEq,true_and,and_true]
   exact⟨by rw[show(off.I ρ+(a:Int)).toNat=(off.I ρ).toNat+a from by omega,Nat.add_mul],by omega⟩
  ·cases R
 ·cases R
def Ns (i:TI) (h:au) (B:J) (m:Nm) (len:U):T X :=
 if (i.sl.isSome && iu h m) = true then want B (mkNot (mkLt len (.lit 0))) fun _ => .ret (.sc (.i .i64 len)) else (.fail ["lenV"])
theorem ahJ {P:Program} {ρ:aa} {ty:TypeId} {h:au} {B:J} {m:Nm} {z:Nat} {off len:U} {own:Bool} {v:X} (u:J.ok ρ B) (R:(Ns (cq P ty) h B m len).aq ρ=some v):mo (iZ P (aN ρ h) ty ((X.slv m z off len own).I ρ))=some (v.I ρ):=by
 unfold Ns at R
 split at R
 ·rename_i hs
  simp only[Bool.and_eq_true]at hs
  have cu:(bE P ty).isSome=true:=hs.1
  obtain⟨_,_,A,R⟩:=cW u R
  cases R
  have A:=eH A
  simp only[U.I]at A
  simp only[X.I,iZ,cu,jD hs.2,and_self,if_true,mo,Sc.I]
  congr 3
  omega
 ·cases R
def EM (h:au) (B:J) (z:Nat):X->T Rows
 | .slv m z' off len _=>match y' h m with
  | some (w,n,l)=>if(Nat.beq z' z&&Nat.beq w z)=true then
    want B (mkNot (mkLt off (.lit 0))) fun B=>want B (mkNot (mkLt len (.lit 0))) fun B=>want B (mkNot (mkLt n (mkAdd off len))) fun _ =>
     .ret (.r len (match off with | .lit 0=>l | off => .drop off l))
   else (.fail ["elemsT"])
  | none => (.fail ["rowsAt"])
 | x=>eI (EN h z x)
theorem Af {z:Nat}:∀(D:List (List AV)) (k:Nat),(∀(j:Nat) (e:List AV),D[j]? = some e->e.length=z)->k<=D.length->chunk z k D.flatten=D.take k
 | _,0,_,_=>by simp[chunk]
 | [],k+1,_,h=>by simp at h
 | e::D,k+1,h,u=>by
  have h0:=h 0 e rfl
  simp only[chunk,List.flatten_cons,List.take_succ_cons]
  rw[List.take_append_of_le_length (by omega),List.take_of_length_le (by omega),<-h0,List.drop_append_of_le_length (Nat.le_refl _),List.drop_length,List.nil_append,h0,
   Af D k (fun j e' O=>h (j+1) e' (by simpa using O)) (by simpa using u)]
theorem Lv {z:Nat}:∀(k:Nat) (D:List (List AV)),(∀(j:Nat) (e:List AV),D[j]? = some e->e.length=z)->D.flatten.drop (k*z)=(D.drop k).flatten
 | 0,D,_=>by simp
 | k+1,[],_=>by simp
 | k+1,e::D,h=>by
  have h0:=h 0 e rfl
  rw[List.flatten_cons,List.drop_succ_cons,Nat.succ_mul,Nat.add_comm,<-List.drop_drop,<-h0,List.drop_append_of_le_length (Nat.le_refl _),List.drop_length,List.nil_append,h0]
  exact Lv k D (fun j e' O=>h (j+1) e' (by simpa using O))
theorem Tn {ρ:aa} {h:au} {B:J} {z:Nat} {x:X} {r:Rows} (u:J.ok ρ B) (G:(EM h B z x).aq ρ=some r):et (aN ρ h) z (x.I ρ)=some (r.I ρ):=by
 unfold EM at G
 split at G
 ·split at G
  ·rename_i m z' off len own at8 w n l hr
   split at G
   ·rename_i H
    simp only[Bool.and_eq_true]at H
    have BH:=Nat.eq_of_beq_eq_true H.1
    have Vl:=Nat.eq_of_beq_eq_true H.2
    subst BH Vl
    obtain⟨fd,bp,c1,G⟩:=cW u G
    obtain⟨lw,dO,c2,G⟩:=cW bp G
    obtain⟨zJ,qC,c3,G⟩:=cW dO G
    cases G
    have c1:=eH c1
    have c2:=eH c2
    have c3:=eH c3
    rw[fe]at c3
    simp only[U.I]at c1 c2
    obtain⟨a,ha⟩:∃a:Nat,off.I ρ=a:=⟨(off.I ρ).toNat,by omega⟩
    obtain⟨b,hb⟩:∃b:Nat,len.I ρ=b:=⟨(len.I ρ).toNat,by omega⟩
    obtain⟨c,hcn⟩:∃c:Nat,n.I ρ=c:=⟨(n.I ρ).toNat,by omega⟩
    obtain⟨Z,hw⟩:=HS (ρ:=ρ) hr
    have aZ:a+b<=c:=by omega
    have E:(a+b)*w<=c*w:=Nat.mul_le_mul_right w aZ
    rw[Nat.add_mul]at E
    simp only[X.I,et,Z,Option.bind_some,ha,hb,Int.toNat_natCast,wc hw,hcn]
    rw[if_pos ⟨trivial,E⟩,Lv a _ (fun j e h=>CF hw j e h),Af _ _ (fun j e h=>CF hw (a+j) e (by rw[List.getElem?_drop]at h;exact h)) (by rw[List.length_drop,pR];omega)]
    simp only[Rows.I,Option.some.injEq]
    apply List.ext_getElem?
    intro j
    rw[List.getElem?_take,List.getElem?_drop]
    by_cases O:j<b
    ·rw[if_pos O,mD (by omega),mD (by omega)]
     congr 1
     split
     ·simp only[U.I]at ha
      rw[show a+j=j from by omega]
     ·simp only[RL.row,ha]
      congr 1
      omega
    ·rw[if_neg O,List.getElem?_eq_none (by rw[pR];omega)]
   ·cases G
  ·cases G
 ·exact To (e5 G)
def Rows.ZE:Rows->Option Rows
 | .c D=>(oP D).map fun m => .r (.lit D.length) m
 | .r n l=>some (.r n l)
theorem Rows.asq {ρ:aa} {a b:Rows} (h:a.ZE=some b):b.I ρ=a.I ρ/\b.len=a.len:=by
 cases a with
 | c D =>
  obtain⟨m,hm,rfl⟩:=Option.map_eq_some_iff.1 h
  exact⟨Iz hm,rfl⟩
 | r n l=>cases h;exact⟨rfl,rfl⟩
def Rows.cut (B:J) (len off:U) (l:RL):Rows :=
 match red B (mkEq len (.lit 0))with
 | .lit true => .c []
 | _ => .r len (.drop off l)
theorem Yl {ρ:aa} {n len off:U} {l:RL} (h0:0<=off.I ρ) (A:0<=len.I ρ) (hn:n.I ρ=off.I ρ+len.I ρ):(aV ρ n l).drop (off.I ρ).toNat=aV ρ len (.drop off l):=by
 obtain⟨a,ha⟩:∃a:Nat,off.I ρ=a:=⟨(off.I ρ).toNat,by omega⟩
 obtain⟨b,hb⟩:∃b:Nat,len.I ρ=b:=⟨(len.I ρ).toNat,by omega⟩
 apply List.ext_getElem?
 intro j
 rw[List.getElem?_drop,ha,Int.toNat_natCast]
 by_cases O:j<b
 ·rw[mD (by omega),mD (by omega)]
  simp only[RL.row,ha]
  congr 2
  omega
 ·rw[List.getElem?_eq_none (by rw[pR];omega),List.getElem?_eq_none (by rw[pR];omega)]
theorem Rows.adQ {ρ:aa} {B:J} (u:J.ok ρ B) {n len off:U} {l:RL} (h0:0<=off.I ρ) (A:0<=len.I ρ) (hn:n.I ρ=off.I ρ+len.I ρ):(Rows.cut B len off l).I ρ=(aV ρ n l).drop (off.I ρ).toNat/\(Rows.cut B len off l).len.I ρ=len.I ρ:=by
 unfold Rows.cut
 split
 ·rename_i G
  have:=c9 u (mkEq len (.lit 0))
  rw[G,eQ]at this
  have hz:len.I ρ=0:=by
   have:=of_decide_eq_true this.symm
   exact this
  constructor
  ·rw[Yl h0 A hn];simp[Rows.I,X.aX,aV,hz]
  ·simp[Rows.len,U.I,hz]
 ·exact⟨(Yl h0 A hn).symm,rfl⟩
def JA (n z b:Nat) (h:au) (B:J) (fs:Rows) (m:Nm) (w:Nat) (off len:U) (own:Bool):T (X×aL) :=
 match y' h m with
 | some (w',n',l)=>if(Nat.beq w z&&(Nat.beq w' z&&own))=true then
   (if(off.beq (.lit 0)&&n'.beq len)=true then
    vS B (.r len l) fs b fun _ => if HU fs = true then eI (za n z [(m, none)] (.r len l) fs) else (.fail ["one"])
   else want B (mkNot (mkLt off (.lit 0))) fun B=>want B (mkEq n' (mkAdd off len)) fun B=>want B (mkNot (mkLt len (.lit 0))) fun B =>
    match fs.ZE with
    | some fs => vS B (Rows.cut B len off l) fs b fun _ => if HU fs = true then eI (za n z [(m, none)] (Rows.cut B len off l) fs) else (.fail ["one"])
    | none => (.fail ["toR"]))
  else (.fail ["apV"])
 | none => (.fail ["rowsAt"])
def Jx (n z b:Nat) (B:J) (cs:List X) (fs:Rows) (m:Nm) (w off len:Nat) (own:Bool):T (X×aL) :=
 if(Nat.beq w z&&(own&&Nat.beq cs.length (off+len*z)))=true then
  vS B (.c (nT z len (cs.drop off))) fs b fun _ => if HU fs = true then eI (za n z [(m, none)] (.c (nT z len (cs.drop off))) fs) else (.fail ["one"])
 else (.fail ["apC"])
theorem acG {P:Program} {ρ:aa} {n z:Nat} {mu:Bool} {e:TypeId} {h:au} {B:J} (u:J.ok ρ B) {fs:Rows} {m:Nm} {w:Nat} {off len:U} {own:Bool} {r:X×aL} (R:(JA n z (de P e) h B fs m w off len own).aq ρ=some r) :
  jk P n (aN ρ h) mu e z ((X.slv m w off len own).I ρ) (some (fs.I ρ))=some (r.1.I ρ,bk ρ r.2):=by
 unfold JA at R
 split at R
 ·rename_i w' n' l hr
  split at R
  ·rename_i H
   simp only[Bool.and_eq_true]at H
   obtain⟨g1,g2,g4⟩:=H
   have g1:=Nat.eq_of_beq_eq_true g1
   have g2:=Nat.eq_of_beq_eq_true g2
   subst g1 g2
   obtain⟨Z,hw⟩:=HS (ρ:=ρ) hr
   split at R
   ·rename_i H
    simp only[Bool.and_eq_true]at H
    obtain⟨g3,g5⟩:=H
    have g3:=U.beq_eq _ _ g3
    have g5:=U.beq_eq _ _ g5
    subst g3 g5
    obtain⟨aS,_,la,lm,c1,c2,R⟩:=zj u R
    split at R
    ·rename_i gy
     have hn:=HT la lm (e5 R)
     have M:(aV ρ n' l).length=(n'.I ρ).toNat:=pR ρ n' l
     simp only[Rows.I]at c1 c2 hn
     have Dt:(U.lit 0).I ρ=0:=rfl
     simp only[X.I,jk,Z,Dt,Int.toNat_zero,Nat.zero_mul]
     rw[if_pos ⟨trivial,g4⟩]
     simp only[uo]
     rw[if_pos ⟨by rw[wc hw,Nat.zero_add],Py gy,by rw[<-M];exact c1,by rw[<-M];exact c2⟩,List.drop_zero,hn,M]
     rfl
    ·cases R
   ·obtain⟨fd,bp,c1,R⟩:=cW u R
    obtain⟨lw,dO,c2,R⟩:=cW bp R
    obtain⟨zJ,qC,c3,R⟩:=cW dO R
    have c1:=eH c1
    rw[eQ]at c2
    have c2:=of_decide_eq_true c2
    have c3:=eH c3
    rw[fe]at c2
    have Dt:(U.lit 0).I ρ=0:=rfl
    rw[Dt]at c1 c3
    have c1:0<=off.I ρ:=by omega
    have c3:0<=len.I ρ:=by omega
    split at R
    ·rename_i gs hgs
     have ka:=Rows.asq (ρ:=ρ) hgs
     have hcd:=Rows.adQ (l:=l) qC c1 c3 c2
     obtain⟨aS,_,la,lm,d1,d2,R⟩:=zj qC R
     split at R
     ·rename_i gy
      have hn:=HT la lm (e5 R)
      have M:((aV ρ n' l).drop (off.I ρ).toNat).length=(len.I ρ).toNat:=by rw[List.length_drop,pR];omega
      have gy:=Py (ρ:=ρ) gy
      rw[hcd.1,ka.1,M]at d1 d2 hn
      rw[ka.1]at gy
      simp only[X.I,jk,Z]
      rw[if_pos ⟨trivial,g4⟩]
      simp only[uo]
      have hD:(aV ρ n' l).flatten.length=(off.I ρ).toNat*w'+(len.I ρ).toNat*w':=by rw[wc hw,<-Nat.add_mul];congr 1;omega
      rw[if_pos ⟨hD,gy,d1,d2⟩,Lv _ _ (fun j e h=>CF hw j e h),hn]
      rfl
     ·cases R
    ·cases R
  ·cases R
 ·cases R
theorem acB {P:Program} {ρ:aa} {n z:Nat} {mu:Bool} {e:TypeId} {h:au} {B:J} (u:J.ok ρ B) {cs:List X} {fs:Rows} {m:Nm} {w off len:Nat} {own:Bool} {r:X×aL} (Z:ph h m=some cs) (R:(Jx n z (de P e) B cs fs m w off len own).aq ρ=some r) :
  jk P n (aN ρ h) mu e z (.sl m w off len own) (some (fs.I ρ))=some (r.1.I ρ,bk ρ r.2):=by
 unfold Jx at R
 split at R
 ·rename_i H
  simp only[Bool.and_eq_true]at H
  obtain⟨g1,g3,g4⟩:=H
  have g1:=Nat.eq_of_beq_eq_true g1
  have g4:=Nat.eq_of_beq_eq_true g4
  subst g1
  obtain⟨aS,_,la,lm,c1,c2,R⟩:=zj u R
  split at R
  ·rename_i gy
   have hn:=HT la lm (e5 R)
   have mc:(X.af ρ cs).length=off+len*w:=by rw[X.f_];exact g4
   have hf:(X.aX ρ (nT w len (cs.drop off))).flatten=(X.af ρ cs).drop off:=by rw[w8,X.xc];exact Ag w len _ (by rw[List.length_drop,mc];omega)
   have M:(X.aX ρ (nT w len (cs.drop off))).length=len:=by rw[w8,qj]
   simp only[Rows.I,hf,M]at c1 c2 hn
   simp only[jk,xV Z]
   rw[if_pos ⟨trivial,g3⟩]
   simp only[uo]
   rw[if_pos ⟨mc,Py gy,c1,c2⟩,hn]
   rfl
  ·cases R
 ·cases R
def cD (n z b:Nat) (B:J) (m:Nm) (w:Nat) (off len:U) (own:Bool) (z':Nat) (k:U) (t:Nat) (D:List (List X)):Rows->T (X×aL)
 | .c fs=>if(Nat.beq w z&&(Nat.beq z' z&&(own&&(off.beq (.lit 0)&&(len.beq (mkAdd k (.lit D.length))&&(D.all (fun e=>Nat.beq e.length z)&&(e9 fs).all X.one))))))=true then
   vS B (.r k (.one [])) (.c (D++fs)) b fun _ => .ret (.slv (n,0) z (.lit 0) (mkAdd k (.lit (D.length+fs.length:Nat))) true,[(m,none),((n,0),some [.tk z k t (D++fs)])])
  else (.fail ["apT"])
 | _ => (.fail ["apT"])
theorem acF {P:Program} {ρ:aa} {n z:Nat} {mu:Bool} {e:TypeId} {h:au} {B:J} (u:J.ok ρ B) {fs:Rows} {m:Nm} {w:Nat} {off len:U} {own:Bool} {z':Nat} {k:U} {t:Nat} {D:List (List X)} {r:X×aL} (Z:bg h m=some [.tk z' k t D]) (R:(cD n z (de P e) B m w off len own z' k t D fs).aq ρ=some r) :
  jk P n (aN ρ h) mu e z ((X.slv m w off len own).I ρ) (some (fs.I ρ))=some (r.1.I ρ,bk ρ r.2):=by
 unfold cD at R
 split at R
 ·rename_i fs
  split at R
  ·rename_i H
   simp only[Bool.and_eq_true]at H
   obtain⟨g1,g2,g3,g4,g5,g6,g7⟩:=H
   have g1:=Nat.eq_of_beq_eq_true g1
   have g2:=Nat.eq_of_beq_eq_true g2
   have g4:=U.beq_eq _ _ g4
   have g5:=U.beq_eq _ _ g5
   subst g1 g2 g4 g5
   obtain⟨aS,_,la,lm,c1,c2,R⟩:=zj u R
   cases R
   have la:0<=k.I ρ:=la
   have kc:(X.aX ρ fs).length=fs.length:=by simp[X.ef]
   have hT:(bB ρ z' k t).length=(k.I ρ).toNat:=by unfold bB;rw[List.length_map,List.length_range]
   have hE:(X.aX ρ D).length=D.length:=by simp[X.ef]
   have hR:(aV ρ k (.one [])).length=(k.I ρ).toNat:=pR ρ k _
   have Uz:X.aX ρ (D++fs)=X.aX ρ D++X.aX ρ fs:=by simp[X.ef]
   have hn:((mkAdd k (.lit D.length)).I ρ).toNat=(k.I ρ).toNat+D.length:=by rw[fe];simp only[U.I];omega
   have ke:((mkAdd k (.lit (D.length+fs.length:Nat))).I ρ).toNat=(k.I ρ).toNat+D.length+fs.length:=by rw[fe];simp only[U.I];omega
   simp only[Rows.I,Uz,List.length_append,hR,hE,kc]at c1 c2
   have Dt:(U.lit 0).I ρ=0:=rfl
   have ae:ae (aN ρ h) m=some (bB ρ z' k t++X.aX ρ D).flatten:=by rw[cG,Z];rfl
   simp only[X.I,jk,ae,Dt,Int.toNat_zero,Nat.zero_mul,Rows.I]
   rw[if_pos ⟨trivial,g3⟩]
   simp only[uo,kc]
   have hD:(bB ρ z' k t++X.aX ρ D).flatten.length=((k.I ρ).toNat+D.length)*z':=by
    rw[gQ _ (fun j e h=>QA g6 j e h),List.length_append,hT,hE]
   rw[if_pos ⟨by rw[hD,hn,Nat.zero_add],by rw[<-qu];exact X.nL ρ _ g7,by rw[hn,Nat.add_assoc];exact c1,by rw[hn,Nat.add_assoc];exact c2⟩]
   simp only[hn,ke,bk,List.map_cons,List.map_nil,Option.map_some,Option.map_none,aA,Uz,List.drop_zero,List.flatten_append,List.append_assoc]
  ·cases R
 ·cases R
def Jy (n:Nat) (mu:Bool) (z b:Nat) (h:au) (B:J) (fs:Rows):X->T (X×aL)
 | .sl m w off len own=>match ph h m,fs with
  | some cs,.c fs=>eI (Jz n z b m w off len own cs fs)
  | some cs,fs=>Jx n z b B cs fs m w off len own
  | _,_=>(.fail [])
 | .slv m w off len own=>match bg h m with
  | some [.tk z' k t D]=>cD n z b B m w off len own z' k t D fs
  | _=>JA n z b h B fs m w off len own
 | s=>match z2 z s with
  | some D=>Jw n mu z b B D fs
  | none=>(.fail [])
theorem acC {P:Program} {n:Nat} {h:Hp} {mu:Bool} {e:TypeId} {z:Nat} {s:AV} {fs:List (List AV)} (hs:∀m w off len own,s ≠ .sl m w off len own):jk P n h mu e z s (some fs)=nM n mu z (de P e) fs (jl z s):=by
 cases s<;>first | rfl | exact absurd rfl (hs _ _ _ _ _)
theorem acD {P:Program} {ρ:aa} {n z:Nat} {mu:Bool} {e:TypeId} {h:au} {B:J} (u:J.ok ρ B) {fs:Rows} {s:X} {r:X×aL} (R:(Jy n mu z (de P e) h B fs s).aq ρ=some r) :
  jk P n (aN ρ h) mu e z (s.I ρ) (some (fs.I ρ))=some (r.1.I ρ,bk ρ r.2):=by
 unfold Jy at R
 split at R
 ·split at R
  ·exact acE (by assumption) (e5 R)
  ·exact acB u (by assumption) R
  ·cases R
 ·split at R
  ·exact acF u (by assumption) R
  ·exact acG u R
 ·rename_i hs i9
  rw[acC (fun m w off len own W=>by
   cases s with
   | sl _ _ _ _ _=>exact hs _ _ _ _ _ rfl
   | slv _ _ _ _ _=>exact i9 _ _ _ _ _ rfl
   | gd c x=>simp[z2,T.aq]at R
   | cJ _ _ _=>simp[z2,T.aq]at R
   | _=>simp only[X.I,reduceCtorEq]at W)]
  split at R
  ·rename_i D Bg
   rw[ac3 Bg]
   exact acA u R
  ·cases R
def JB (n:Nat) (mu:Bool) (i ag4:TI) (ti:Nat->Option TI) (h:au) (B:J) (s x:X):T (X×aL) :=
 match i.sl,ag4.sl with
 | some (e,z),some (e',z')=>match ti e with
  | some ie=>if(Nat.beq e e'&&(Nat.beq z z'&&Ja ie z))=true then
    (EM h B z x).bind B fun B fs=>Jy n mu z ie.kU h B fs s
   else(.fail [])
  | none=>(.fail [])
 | _,_=>(.fail [])
theorem acI {P:Program} {ρ:aa} {n:Nat} {mu:Bool} {ty xt:TypeId} {ti:Nat->Option TI} (a_:eM.ok P ti) {h:au} {B:J} (u:J.ok ρ B) {s x:X} {r:X×aL}
  (R:(JB n mu (cq P ty) (cq P xt) ti h B s x).aq ρ=some r):nN P n (aN ρ h) mu ty xt (s.I ρ) (x.I ρ)=some (r.1.I ρ,bk ρ r.2):=by
 unfold JB at R
 split at R
 ·rename_i e z e' z' A E
  have pa:bE P ty=some (e,z):=A
  have xI:bE P xt=some (e',z'):=E
  split at R
  ·rename_i ie gw
   have gw:=a_ _ _ gw
   subst gw
   split at R
   ·rename_i H
    simp only[Bool.and_eq_true]at H
    have G:=Nat.eq_of_beq_eq_true H.1
    have hz:=Nat.eq_of_beq_eq_true H.2.1
    subst G hz
    simp only[nN,pa,xI,aa1 H.2.2]
    rw[if_pos ⟨trivial,trivial⟩]
    obtain⟨aS,fs,aO,hf,R⟩:=T.cQ _ u R
    rw[Tn u hf]
    exact acD aO R
   ·cases R
  ·cases R
 ·cases R
def Kk (i:TI) (h:au) (s x:X):Option (X×aL) :=
 match i.sl with
 | some (_,z)=>match s,EN h z x with
  | .sl m w off len _,some (.c fs)=>match ph h m with
   | some cs=>if(Nat.beq w z&&(Nat.ble fs.length len&&(Nat.ble (off+fs.length*z) cs.length&&((e9 fs).all X.one && !b5 (tI cs off (e9 fs))))))=true then
     some (.sc (.i .i64 (.lit fs.length)),[(m,some (tI cs off (e9 fs)))])else none
   | none=>none
  | _,_=>none
 | none=>none
theorem adL {P:Program} {ρ:aa} {ty:TypeId} {h:au} {s x:X} {r:X×aL} (R:Kk (cq P ty) h s x=some r):w_ P (aN ρ h) ty (s.I ρ) (x.I ρ)=some (r.1.I ρ,bk ρ r.2):=by
 unfold Kk at R
 split at R
 ·rename_i e z hs
  have cu:bE P ty=some (e,z):=hs
  split at R
  ·rename_i m w off len own fs G
   split at R
   ·rename_i cs Z
    split at R
    ·rename_i H
     simp only[Bool.and_eq_true,Nat.ble_eq]at H
     obtain⟨g1,g2,g3,g4,g5⟩:=H
     have g1:=Nat.eq_of_beq_eq_true g1
     subst g1
     cases R
     have M:(X.aX ρ fs).length=fs.length:=by simp[X.ef]
     have qA:=To (ρ:=ρ) G
     simp only[w_,cu,qA,Rows.I,X.I,xV Z,M,X.f_,<-qu]
     rw[if_pos ⟨trivial,g2,g3,X.nL ρ _ g4⟩]
     simp only[Sc.I,U.I,bk,List.map_cons,List.map_nil,Option.map_some,cP (ρ:=ρ) (show b5 (tI cs off (e9 fs))=false by simpa using g5),Ij]
    ·cases R
   ·cases R
  ·cases R
 ·cases R
end Go.Proofs.Xw
namespace Go.Proofs.Xw
open Go Go.Proofs.Aw
def cm (g:Nat->X):Operand->X
 | .tmp i=>g i
 | .const v=>mz v
 | .global a => .k (.pointer (some ⟨a,0,none⟩))
 | .func f => .fn (.func f) [] []
def uQ (g:Nat->X):List Operand->List X
 | []=>[]
 | x::xs=>cm g x::uQ g xs
def AE (g:Nat->X):List (Nat×Operand)->List (Nat×X)
 | []=>[]
 | (i,x)::xs=>(i,cm g x)::AE g xs
section
variable {ρ:aa} {g:Nat->X} {t:Tp} (Z:∀i,(g i).I ρ=bP t i)
include Z
theorem eN (x:Operand):(cm g x).I ρ=ev t x:=by
 cases x with
 | tmp i=>exact Z i
 | const v=>exact W0 ρ v
 | global a=>rfl
 | func f=>simp only[cm,X.I,X.af,ev]
theorem EZ:∀l:List Operand,X.af ρ (uQ g l)=n3 t l
 | []=>rfl
 | x::xs=>by simp only[uQ,X.af,n3,eN Z x,EZ xs]
theorem K5:∀l:List (Nat×Operand),mN ρ (AE g l)=uR t l
 | []=>rfl
 | (i,x)::xs=>by
  have:=K5 xs
  simp only[mN]at this
  simp only[AE,mN,List.map_cons,uR,eN Z x,this]
end
inductive XR where
 | ok (r:X) (d:aL)
 | call (f:FuncId) (args:List X)
def strip (B:J):X->X
 | .gd c x=>match red B c with
  | .lit true=>x
  | .lit false => .k undef
  | _ => .gd c x
 | x=>x
theorem Qk {ρ:aa} {B:J} (u:J.ok ρ B) (x:X):(strip B x).I ρ=x.I ρ:=by
 unfold strip
 split
 ·rename_i c x
  have hr:=c9 u c
  split
  ·rename_i hd;rw[hd]at hr;simp only[X.I,<-hr,BE.I,if_true]
  ·rename_i hd;rw[hd]at hr;simp only[X.I,<-hr,BE.I];rfl
  ·rfl
 ·rfl
def O4 (B:J):X->X->X->Option X
 | .sc (.b e),a,b=>match red B e with
  | .lit true=>some a
  | .lit false=>some b
  | d=>X.en d (strip (assume d true B) a) (strip (assume d false B) b)
 | _,_,_=>none
theorem aog {ρ:aa} {B:J} (u:J.ok ρ B) {c a b v:X} (h:O4 B c a b=some v):yS (c.I ρ) (a.I ρ) (b.I ρ)=some (v.I ρ):=by
 unfold O4 at h
 split at h
 ·rename_i e
  have hr:=c9 u e
  split at h
  ·rename_i hd;cases h;rw[hd]at hr;simp only[X.I,Sc.I,<-hr,BE.I,yS]
  ·rename_i hd;cases h;rw[hd]at hr;simp only[X.I,Sc.I,<-hr,BE.I,yS]
  ·rw[X.B_ _ _ _ h]
   simp only[X.I,Sc.I]
   by_cases hd:BE.I ρ (red B e)=true
   ·rw[if_pos hd,Qk (gm _ true B hd u),<-hr,hd];rfl
   ·have xO:BE.I ρ (red B e)=false:=by simpa using hd
    rw[if_neg hd,Qk (gm _ false B xO u),<-hr,xO];rfl
 ·cases h
def Oq (h:au):X->Option X
 | .ptr n aF d=>if iu h n=true then some (.ptr n aF d)else none
 | .ip cs aF d=>some (.ip cs aF d)
 | .fn (.func f) xs ys=>some (.fn (.func f) xs ys)
 | _=>none
theorem aiZ {ρ:aa} {h:au} {x v:X} (R:Oq h x=some v):vK (aN ρ h) (x.I ρ)=some (v.I ρ):=by
 unfold Oq at R
 split at R
 ·split at R
  ·rename_i ho;cases R;simp only[X.I,vK,jD ho,if_true]
  ·cases R
 ·cases R;simp only[X.I,vK]
 ·cases R;simp only[X.I,vK]
 ·cases R
def q9:BinOp->Bool->Option X
 | .eql,b=>some (.sc (.b (.lit b)))
 | .neq,b=>some (.sc (.b (.lit (!b))))
 | _,_=>none
theorem vJ {ρ:aa} {op:BinOp} {b:Bool} {v:X} (h:q9 op b=some v):mw op b=some (v.I ρ):=by
 unfold q9 at h
 split at h<;>first | cases h | skip
 ·rfl
 ·rfl
def On (t:TI) (h:au) (op:BinOp) (x:X):Option X :=
 match t.sl with
 | some _=>match x with
  | .sl m _ _ _ _=>if iu h m=true then q9 op false else none
  | .slv m _ _ _ _=>if iu h m=true then q9 op false else none
  | .ro _ (_::_) _=>q9 op false
  | .k (.slice none 0 0)=>q9 op true
  | _=>none
 | none=>none
theorem aiX {P:Program} {ρ:aa} {ty:TypeId} {h:au} {op:BinOp} {x v:X} (R:On (cq P ty) h op x=some v):gO P (aN ρ h) op ty (x.I ρ) (.sc (.slice none 0 0))=some (v.I ρ):=by
 unfold On at R
 split at R
 ·rename_i p hs
  have cu:bE P ty=some p:=hs
  have e:∀y,gn P op ty y (.sc (.slice none 0 0))=none:=fun y=>by
   unfold gn
   split<;>simp_all
  unfold gO
  rw[e]
  simp only[kA,cu]
  split at R
  ·split at R
   ·rename_i hm
    simp only[X.I]
    rw[if_pos (jD hm)]
    exact vJ R
   ·cases R
  ·split at R
   ·rename_i hm
    simp only[X.I]
    rw[if_pos (jD hm)]
    exact vJ R
   ·cases R
  ·simp only[X.I,X.aX]
   exact vJ R
  ·simp only[X.I]
   exact vJ R
  ·cases R
 ·cases R
def Om (t:TI) (h:au) (B:J) (op:BinOp):X->T X
 | .rl _ n _ _=>match t.sl with
  | some _=>want B (.lt (.lit 0) n) fun _=>eI (q9 op false)
  | none => .fail []
 | x=>eI (On t h op x)
theorem aqf {ρ:aa} {n:U} {l:RL} (h:0<n.I ρ):∃a b,aV ρ n l=a::b:=by
 unfold aV
 obtain⟨m,hm⟩:∃m,(n.I ρ).toNat=m+1:=⟨(n.I ρ).toNat-1,by omega⟩
 rw[hm,List.range_succ_eq_map]
 exact⟨_,_,rfl⟩
theorem aiW {P:Program} {ρ:aa} {ty:TypeId} {h:au} {B:J} {op:BinOp} {x v:X} (u:J.ok ρ B) (R:(Om (cq P ty) h B op x).aq ρ=some v):gO P (aN ρ h) op ty (x.I ρ) (.sc (.slice none 0 0))=some (v.I ρ):=by
 unfold Om at R
 split at R
 ·split at R
  ·rename_i p hs
   have cu:bE P ty=some p:=hs
   have e:∀y,gn P op ty y (.sc (.slice none 0 0))=none:=fun y=>by
    unfold gn
    split<;>simp_all
   obtain⟨_,_,H,R⟩:=cW u R
   simp only[BE.I,U.I]at H
   obtain⟨a,b,xK⟩:=aqf (of_decide_eq_true H)
   unfold gO
   rw[e]
   simp only[kA,cu,X.I]
   rw[xK]
   exact vJ (e5 R)
  ·cases R
 ·exact aiX (e5 R)
def Pf (t:TI) (h:au) (op:BinOp) (x:X):Option X :=
 match t.pt with
 | true=>match x with
  | .ptr m _ _=>if iu h m=true then q9 op false else none
  | .k (.pointer none)=>q9 op true
  | _=>none
 | false=>none
theorem aoI {P:Program} {ρ:aa} {ty:TypeId} {h:au} {op:BinOp} {x v:X} (R:Pf (cq P ty) h op x=some v):gO P (aN ρ h) op ty (x.I ρ) (.sc (.pointer none))=some (v.I ρ):=by
 unfold Pf at R
 split at R
 ·rename_i hs
  have cu:Cx P ty=true:=hs
  have e:∀y,gn P op ty y (.sc (.pointer none))=none:=fun y=>by
   unfold gn
   split<;>simp_all
  unfold gO
  rw[e]
  simp only[kA,cu]
  split at R
  ·split at R
   ·rename_i hm
    simp only[X.I]
    rw[if_pos (jD hm)]
    exact vJ R
   ·cases R
  ·simp only[X.I]
   exact vJ R
  ·cases R
 ·cases R
def NQ (n:Nat) (i:TI) (ti:Nat->Option TI) (B:J):X->X->T (X×aL)
 | .sc (.i _ a),.sc (.i _ b)=>match i.sl with
  | some (e,z)=>match ti e with
   | some ie=>match ie.zero with
    | some zs=>if(Nat.beq zs.length z&&a.beq b)=true then
      want B (mkNot (mkLt a (.lit 0))) fun B=>want B (mkNot (mkLt (.lit (z9 ie.kU)) a)) fun _ =>
       match a with
       | .lit m => if b5 (e9 (List.replicate m.toNat (zs.map mz))) = true then (.fail ["make"]) else .ret (.sl (n, 0) z 0 m.toNat true, [((n, 0), some (e9 (List.replicate m.toNat (zs.map mz))))])
       | a=>match oQ (zs.map mz)with
        | some r => if Nat.beq r.length z = true then .ret (.slv (n, 0) z (.lit 0) a true, [((n, 0), some [.rows z a (.one r)])]) else (.fail ["make"])
        | none => (.fail ["make"])
     else (.fail ["make"])
    | none => (.fail ["make"])
   | none => (.fail ["make"])
  | none => (.fail ["make"])
 | _, _ => (.fail ["make"])
theorem aaZ (zc:List AV):∀m:Nat,mF m zc=(List.replicate m zc).flatten
 | 0=>rfl
 | m+1=>by simp only[mF,List.replicate_succ,List.flatten_cons,aaZ zc m]
theorem aqg {ρ:aa} {a:U} {r:List Sc}:aV ρ a (.one r)=List.replicate (a.I ρ).toNat (b' ρ r):=by
 apply List.ext_getElem?
 intro j
 by_cases O:j<(a.I ρ).toNat
 ·rw[mD (by omega),List.getElem?_replicate,if_pos O];rfl
 ·rw[List.getElem?_eq_none (by rw[pR];omega),List.getElem?_replicate,if_neg O]
theorem ah7 {P:Program} {ρ:aa} {n:Nat} {ty:TypeId} {ti:Nat->Option TI} (a_:eM.ok P ti) {B:J} (u:J.ok ρ B) {x y:X} {r:X×aL} (h:(NQ n (cq P ty) ti B x y).aq ρ=some r) :
  sZ P n ty (x.I ρ) (y.I ρ)=some (r.1.I ρ,bk ρ r.2):=by
 unfold NQ at h
 split at h
 ·rename_i k a k' b
  split at h
  ·rename_i e z hs
   have cu:bE P ty=some (e,z):=hs
   split at h
   ·rename_i ie gw
    have gw:=a_ _ _ gw
    subst gw
    split at h
    ·rename_i zs x9
     have hz:fy P e=some (zs.map AV.sc):=by rw[I_];have:zeroV P e=some zs:=x9;rw[this];rfl
     split at h
     ·rename_i H
      simp only[Bool.and_eq_true]at H
      have M:=Nat.eq_of_beq_eq_true H.1
      have xK:=U.beq_eq _ _ H.2
      subst xK
      obtain⟨fd,bp,c1,h⟩:=cW u h
      obtain⟨lw,dO,c2,h⟩:=cW bp h
      have c1:=eH c1
      have c2:=eH c2
      simp only[U.I]at c1 c2
      have uY:(cq P e).kU=de P e:=rfl
      rw[uY]at c2
      have f2:=Em (b:=de P e) (n:=(a.I ρ).toNat) (by omega)
      have key:sZ P n ty ((X.sc (.i k a)).I ρ) ((X.sc (.i k' a)).I ρ)=some (.sl (n,0) z 0 (a.I ρ).toNat true,[((n,0),some (List.replicate (a.I ρ).toNat (zs.map AV.sc)).flatten)]):=by
       simp only[X.I,Sc.I,sZ,cu,hz]
       rw[if_pos ⟨by rw[List.length_map];exact M,by omega,trivial,f2.1,by omega⟩,aaZ]
      rw[key]
      cases a with
      | lit m =>
       simp only at h
       split at h
       ·cases h
       ·rename_i hr
        cases h
        have G:X.aX ρ (List.replicate m.toNat (zs.map mz))=List.replicate m.toNat (zs.map AV.sc):=by
         rw[X.ef,List.map_replicate,G4]
        simp only[X.I,U.I,bk,List.map_cons,List.map_nil,Option.map_some,cP (ρ:=ρ) (show b5 (e9 (List.replicate m.toNat (zs.map mz)))=false by simpa using hr),qu,G]
      | _ =>
       simp only at h
       split at h
       ·rename_i q hq
        split at h
        ·cases h
         have hJ:=zr (ρ:=ρ) hq
         rw[G4]at hJ
         simp only[X.I,U.I,Int.toNat_zero,Nat.zero_mul,bk,List.map_cons,List.map_nil,Option.map_some,aA,aqg,hJ]
        ·cases h
       ·cases h
     ·cases h
    ·cases h
   ·cases h
  ·cases h
 ·cases h
def ni (o:Option X):T XR:=eI (o.map fun v => .ok v [])
def pH (t:T X):T XR:=t.map fun v => .ok v []
def gE (ti:Nat->Option TI) (t:Nat) (k:TI->T XR):T XR:=match ti t with
 | some i=>k i
 | none=>(.fail [])
def NF (i:TI) (h:au) (B:J):X->T X
 | .du m z j o=>ND i h B m z j o
 | x=>eI (Gh i h x)
theorem ahU {P:Program} {ρ:aa} {ty:TypeId} {h:au} {B:J} {x v:X} (u:J.ok ρ B) (R:(NF (cq P ty) h B x).aq ρ=some v):oo P (aN ρ h) ty (x.I ρ)=some (v.I ρ):=by
 unfold NF at R
 split at R
 ·exact ahT u R
 ·exact VX (e5 R)
def Qh (i:TI) (h:au) (B:J) (x:X) (ys:List X):T aL :=
 match x with
 | .du m z j o=>Qg i h B m z j o ys
 | x=>eI (Qi i h x ys)
theorem art {P:Program} {ρ:aa} {ty:TypeId} {h:au} {B:J} {x:X} {ys:List X} {d:aL} (u:J.ok ρ B) (R:(Qh (cq P ty) h B x ys).aq ρ=some d):ys.all X.one=true/\pV P (aN ρ h) ty (x.I ρ) (X.af ρ ys)=some (bk ρ d):=by
 unfold Qh at R
 split at R
 ·exact ars u R
 ·exact aru (e5 R)
def MT (i:TI) (h:au) (B:J) (x y:X):T X :=
 match x,y with
 | .slv m z off len _,.sc (.i _ e)=>MV i h B m z off len e
 | .du m z j o,.sc (.i _ (.lit e))=>match i.arr with
  | some (len, z') => if (iu h m && (decide (0 <= e) && decide (e < len))) = true then .ret (.du m z j (o + e.toNat * z')) else (.fail ["idxAddrW"])
  | none => (.fail ["idxAddrW"])
 | x,y=>MU i h B x y
theorem agG {P:Program} {ρ:aa} {ty:TypeId} {h:au} {B:J} {x y v:X} (u:J.ok ρ B) (R:(MT (cq P ty) h B x y).aq ρ=some v):jy P (aN ρ h) ty (x.I ρ) (y.I ρ)=some (v.I ρ):=by
 unfold MT at R
 split at R
 ·exact agI u R
 ·split at R
  ·rename_i m z j o k e len z' ha
   have dy:er P ty=some (len,z'):=ha
   split at R
   ·rename_i H
    simp only[Bool.and_eq_true,decide_eq_true_eq]at H
    cases R
    simp only[X.I,Sc.I,U.I,jy,dy,FQ,jD H.1]
    rw[if_pos ⟨trivial,H.2.1,H.2.2⟩]
    congr 2
    omega
   ·cases R
  ·cases R
 ·exact agH u R
def IA (i:TI):X->U
 | .slv _ _ _ len _=>len
 | x=>p5 i x
def P7 (i:TI) (h:au) (B:J) (x:X) (lo hi:U) (hn:Bool):T X :=
 match x with
 | .slv m z off len own=>P9 i h B m z off len own lo hi
 | x=>P8 i h B x lo hi hn
theorem aq5 {P:Program} {ρ:aa} {ty:TypeId} {h:au} {B:J} {x v:X} {lo hi:Option X} {l r:U} (u:J.ok ρ B) (M:nQ lo (.lit 0)=some l) (hr:nQ hi (IA (cq P ty) x)=some r)
  (R:(P7 (cq P ty) h B x l r hi.isNone).aq ρ=some v):∃w,pT P (aN ρ h) ty (x.I ρ) (lo.map (X.I ρ)) (hi.map (X.I ρ)) none=some w/\bR (v.I ρ) w:=by
 unfold P7 at R
 split at R
 ·exact⟨_,aq9 u M hr R,bR.refl _⟩
 ·rename_i hx
  refine aq6 u M ?_ R
  have:IA (cq P ty) x=p5 (cq P ty) x:=by
   unfold IA
   split
   ·exact absurd rfl (hx _ _ _ _ _)
   ·rfl
  rw[<-this];exact hr
def Nt (i:TI) (h:au) (B:J):X->T X
 | .slv m _ _ len _=>Ns i h B m len
 | x=>Nu i h B x
theorem ahK {P:Program} {ρ:aa} {ty:TypeId} {h:au} {B:J} {x v:X} (u:J.ok ρ B) (R:(Nt (cq P ty) h B x).aq ρ=some v):mo (iZ P (aN ρ h) ty (x.I ρ))=some (v.I ρ):=by
 unfold Nt at R
 split at R
 ·exact ahJ u R
 ·exact ahL u R
def Qe (ti:Nat->Option TI) (n:Nat) (mu:Bool) (g:Nat->X) (h:au) (B:J):Op->T XR
 | .move x => .ret (.ok (cm g x) [])
 | .assign x => .ret (.ok (cm g x) [])
 | .pick c a b=>ni (O4 B (cm g c) (cm g a) (cm g b))
 | .alloc e=>gE ti e fun i=>eI (i.zero.bind fun zs=>if b5 (zs.map mz)=true then none else some (.ok (.ptr (n,0) [] 0) [((n,0),some (zs.map mz))]))
 | .box _ x=>if(cm g x).cells.all X.one=true then .ret (.ok (.ptr (n,0) [] 0) [((n,0),some (cm g x).cells)])else(.fail [])
 | .load ty x=>gE ti ty fun i=>pH (NF i h B (cm g x))
 | .store ty x y=>gE ti ty fun i=>(Qh i h B (cm g x) (cm g y).cells).map fun d => .ok (.k undef) d
 | .nilCheck x=>ni (Oq h (cm g x))
 | .indexAddr ty x i=>gE ti ty fun t=>pH (MT t h B (cm g x) (cm g i))
 | .fieldAddr ty x f=>gE ti ty fun t=>ni (Ln t h f (cm g x))
 | .field ty x f=>gE ti ty fun t=>ni (Lo t f (cm g x))
 | .index ty x i=>gE ti ty fun t=>pH (MX t B (cm g x) (cm g i))
 | .slice ty x lo hi none=>gE ti ty fun t=>match nQ (lo.map (cm g)) (.lit 0),nQ (hi.map (cm g)) (IA t (cm g x))with
  | some l,some r=>pH (P7 t h B (cm g x) l r hi.isNone)
  | _,_=>(.fail [])
 | .slice ty x lo (some hi) (some mx)=>gE ti ty fun t=>ni (P6 t h (cm g x) (lo.map (cm g)) (cm g hi) (cm g mx))
 | .binOp op ty x y _=>gE ti ty fun t=>match cm g y with
  | .k (.slice none 0 0)=>pH (Om t h B op (cm g x))
  | .k (.pointer none)=>ni (Pf t h op (cm g x))
  | _=>pH (JL t B op (cm g x) (cm g y))
 | .unOp op _ x=>pH (QL B op (cm g x))
 | .convert src dst x=>gE ti src fun s=>gE ti dst fun t=>pH (Kj B s t (cm g x))
 | .extract x i=>match cm g x with
  | .tup vs=>ni vs[i]?
  | _=>(.fail [])
 | .makeFunc f xs ys => .ret (.ok (.fn f (uQ g xs.toList) (uQ g ys.toList)) [])
 | .build ty ps=>gE ti ty fun t=>ni (JQ t (AE g ps.toList))
 | .buildSlice ty len ps=>gE ti ty fun t=>eI ((JP n mu t ti len (AE g ps.toList)).map fun p => .ok p.1 p.2)
 | .makeSlice ty l c=>gE ti ty fun t=>(NQ n t ti B (cm g l) (cm g c)).map fun p => .ok p.1 p.2
 | .call ⟨.builtin b,args,gG⟩=>match b,gG.toList,uQ g args.toList with
  | .len,ty::_,x::_=>gE ti ty fun t=>pH (Nt t h B x)
  | .max,_,x::xs=>ni (B4 x xs)
  | .min,_,x::xs=>ni (B7 x xs)
  | .append,[ty,xt],[s,x]=>gE ti ty fun t=>gE ti xt fun t'=>(JB n mu t t' ti h B s x).map fun p => .ok p.1 p.2
  | .copy,[ty,_],[s,x]=>gE ti ty fun t=>eI ((Kk t h s x).map fun p => .ok p.1 p.2)
  | b,_,xs=>ni (Aj b xs)
 | .call ⟨.value x,args,_⟩=>match cm g x with
  | .fn (.func f) xs ys => .ret (.call f (xs++(uQ g args.toList++ys)))
  | _=>(.fail [])
 | _=>(.fail [])
theorem ea {P:Program} {n:Nat} {mu:Bool} {op:Op} {t:Tp} {h:Hp} {r:AV} {d:Dl} (G:cC P n mu t h op = .ok r d):Aw.Yields P n op t h r d:=by
 obtain⟨r',fD,hy,A,E⟩:=Qc (Zd (K:=fun a b=>a=r/\b=d) G ⟨rfl,rfl⟩)
 subst A E;exact hy
theorem acn {P:Program} {n:Nat} {op:Op} {t:Tp} {h:Hp} {r r':AV} {d:Dl} (hy:Aw.Yields P n op t h r d) (M:bR r' r):Aw.Yields P n op t h r' d:=by
 intro C a o next Q ho W ht hn u
 refine hy C a o next Q ho W ht hn fun Y C' hp=>u Y C' ?_
 exact⟨hp.le,hp.kn,hp.heap,M _ _ hp.val,hp.same,hp.mt,hp.os,hp.tape,hp.output,hp.lA,hp.names⟩
theorem aco {P:Program} {n:Nat} {mu:Bool} {op:Op} {t:Tp} {h:Hp} {r r':AV} {d:Dl} (G:cC P n mu t h op = .ok r d) (M:bR r' r):Aw.Yields P n op t h r' d:=acn (ea G) M
def XR.Y9 (ρ:aa) (P:Program) (n:Nat) (mu:Bool) (op:Op) (t:Tp) (h:Hp):XR->Prop
 | .ok r d=>Aw.Yields P n op t h (r.I ρ) (bk ρ d)
 | .call f args=>cC P n mu t h op = .call f (X.af ρ args)
theorem hY {P:Program} {ρ:aa} {ti:Nat->Option TI} (a_:eM.ok P ti) {t:Nat} {k:TI->T XR} {a:XR} (h:(gE ti t k).aq ρ=some a):(k (cq P t)).aq ρ=some a:=by
 unfold gE at h
 split at h
 ·rename_i i hi;rw[a_ _ _ hi]at h;exact h
 ·cases h
theorem oL {ρ:aa} {o:Option X} {a:XR} (h:(ni o).aq ρ=some a):∃v,o=some v/\a = .ok v []:=by
 obtain⟨v,A,E⟩:=Option.map_eq_some_iff.1 (e5 h)
 exact⟨v,A,E.symm⟩
theorem rC {ρ:aa} {o:T X} {a:XR} (h:(pH o).aq ρ=some a):∃v,o.aq ρ=some v/\a = .ok v []:=T.jd o h
theorem adl {P:Program} {n:Nat} {mu:Bool} {h:Hp} {b:Builtin} {gG:List TypeId} {l:List X} {xs:List AV} {v:X} {r:AV} (R:Aj b l=some v) (hb:uE b xs=some r):mM P n mu h b gG xs = .ok r []:=by
 cases b<;>first
  | (simp only[Aj,reduceCtorEq]at R;done)
  | (simp only[mM,hb,c6])
theorem aro {P:Program} {ρ:aa} {ti:Nat->Option TI} (a_:eM.ok P ti) {n:Nat} {mu:Bool} {g:Nat->X} {t:Tp} (Z:∀i,(g i).I ρ=bP t i) {h:au} {B:J} (u:J.ok ρ B) {op:Op} {a:XR}
  (hs:(Qe ti n mu g h B op).aq ρ=some a):a.Y9 ρ P n mu op t (aN ρ h):=by
 unfold Qe at hs
 split at hs
 ·cases hs
  exact ea (mu:=mu) (by simp only[cC,eN Z];rfl)
 ·cases hs
  exact ea (mu:=mu) (by simp only[cC,eN Z];rfl)
 ·obtain⟨v,R,rfl⟩:=oL hs
  have:=aog u R
  simp only[eN Z]at this
  exact ea (mu:=mu) (by simp only[cC,this,c6];rfl)
 ·rename_i e
  obtain⟨zs,hz,hs⟩:=Option.bind_eq_some_iff.1 (e5 (hY a_ hs))
  split at hs
  ·cases hs
  ·rename_i hr
   cases hs
   have ju:zeroV P e=some zs:=hz
   refine ea (mu:=mu) ?_
   simp only[cC,I_,ju,Option.map_some,cg,X.I,choose,bk,List.map_cons,List.map_nil,cP (ρ:=ρ) (show b5 (zs.map mz)=false by simpa using hr),G4]
 ·split at hs
  ·rename_i x H
   cases hs
   refine ea (mu:=mu) ?_
   simp only[cC,<-eN Z,X.Ac ρ _ H,Eh,X.nL ρ _ H,if_true,X.I,choose,bk,List.map_cons,List.map_nil,Option.map_some,cP (ρ:=ρ) (agU H)]
  ·cases hs
 ·obtain⟨v,R,rfl⟩:=rC (hY a_ hs)
  refine ea (mu:=mu) ?_
  simp only[cC,<-eN Z,ahU u R,c6];rfl
 ·obtain⟨v,R,rfl⟩:=T.jd _ (hY a_ hs)
  refine ea (mu:=mu) ?_
  obtain⟨A,E⟩:=art (ρ:=ρ) u R
  simp only[cC,<-eN Z,X.Ac ρ _ A,E,Gd];rfl
 ·obtain⟨v,R,rfl⟩:=oL hs
  refine ea (mu:=mu) ?_
  simp only[cC,<-eN Z,aiZ R,c6];rfl
 ·obtain⟨v,R,rfl⟩:=rC (hY a_ hs)
  refine ea (mu:=mu) ?_
  simp only[cC,<-eN Z,agG u R,c6];rfl
 ·obtain⟨v,R,rfl⟩:=oL (hY a_ hs)
  refine ea (mu:=mu) ?_
  simp only[cC,<-eN Z,aeX R,c6];rfl
 ·obtain⟨v,R,rfl⟩:=oL (hY a_ hs)
  refine ea (mu:=mu) ?_
  simp only[cC,<-eN Z,aeZ R,c6];rfl
 ·obtain⟨v,R,rfl⟩:=rC (hY a_ hs)
  refine ea (mu:=mu) ?_
  simp only[cC,<-eN Z,agM u R,c6];rfl
 ·rename_i ty x lo hi
  have hs:=hY a_ hs
  split at hs
  ·rename_i l r M hr
   obtain⟨v,R,rfl⟩:=rC hs
   have co:hi.isNone=(hi.map (cm g)).isNone:=by cases hi<;>rfl
   rw[co]at R
   obtain⟨w,hw,aZ⟩:=aq5 u M hr R
   refine aco (mu:=mu) (r:=w) ?_ aZ
   have e:∀o:Option Operand,(o.map (cm g)).map (X.I ρ)=k6 t o:=fun o=>by cases o<;>simp only[Option.map_none,Option.map_some,k6,eN Z]
   rw[e,e,eN Z]at hw
   have e0:k6 t none=none:=rfl
   simp only[cC,e0,hw,c6];rfl
  ·cases hs
 ·rename_i ty x lo hi mx
  obtain⟨v,R,rfl⟩:=oL (hY a_ hs)
  refine ea (mu:=mu) ?_
  have hw:=aq4 (ρ:=ρ) R
  have e:∀o:Option Operand,(o.map (cm g)).map (X.I ρ)=k6 t o:=fun o=>by cases o<;>simp only[Option.map_none,Option.map_some,k6,eN Z]
  have e':∀o:Operand,some ((cm g o).I ρ)=k6 t (some o):=fun o=>by simp only[k6,eN Z]
  rw[e,e',e',eN Z]at hw
  simp only[cC,hw,c6];rfl
 ·rename_i at9 ty x y ty'
  have hs:=hY a_ hs
  split at hs
  ·rename_i hy
   obtain⟨v,R,rfl⟩:=rC hs
   refine ea (mu:=mu) ?_
   have A:=aiW (ρ:=ρ) u R
   have e2:(cm g y).I ρ = .sc (.slice none 0 0):=by rw[hy];rfl
   simp only[cC,<-eN Z,e2,A,c6];rfl
  ·rename_i hy
   obtain⟨v,R,rfl⟩:=oL hs
   refine ea (mu:=mu) ?_
   have A:=aoI (ρ:=ρ) R
   have e2:(cm g y).I ρ = .sc (.pointer none):=by rw[hy];rfl
   simp only[cC,<-eN Z,e2,A,c6];rfl
  ·obtain⟨v,R,rfl⟩:=rC hs
   refine ea (mu:=mu) ?_
   simp only[cC,<-eN Z,ac7 (ac8 u R),c6];rfl
 ·obtain⟨v,R,rfl⟩:=rC hs
  refine ea (mu:=mu) ?_
  simp only[cC,<-eN Z,as8 u R,c6];rfl
 ·obtain⟨v,R,rfl⟩:=rC (hY a_ (hY a_ hs))
  refine ea (mu:=mu) ?_
  simp only[cC,<-eN Z,adK u R,c6];rfl
 ·rename_i x i
  split at hs
  ·rename_i vs hx
   obtain⟨v,R,rfl⟩:=oL hs
   refine ea (mu:=mu) ?_
   simp only[cC,<-eN Z,hx,X.I,Lh,X.r_,R,Option.map_some,c6];rfl
  ·cases hs
 ·cases hs
  refine ea (mu:=mu) ?_
  simp only[cC,<-EZ Z,X.I];rfl
 ·obtain⟨v,R,rfl⟩:=oL (hY a_ hs)
  refine ea (mu:=mu) ?_
  simp only[cC,<-K5 Z,adi R,c6];rfl
 ·obtain⟨p,R,rfl⟩:=Option.map_eq_some_iff.1 (e5 (hY a_ hs))
  obtain⟨v,d⟩:=p
  refine ea (mu:=mu) ?_
  simp only[cC,<-K5 Z,adh a_ R,lq]
 ·obtain⟨p,R,rfl⟩:=T.jd _ (hY a_ hs)
  obtain⟨v,d⟩:=p
  refine ea (mu:=mu) ?_
  simp only[cC,<-eN Z,ah7 a_ u R,lq]
 ·rename_i b args gG
  have hL:=EZ (ρ:=ρ) Z args.toList
  split at hs
  ·rename_i ty _ x _ A E
   obtain⟨v,R,rfl⟩:=rC (hY a_ hs)
   rw[E]at hL
   refine ea (mu:=mu) ?_
   simp only[cC,A,<-hL,X.af,mM,ahK u R,c6];rfl
  ·rename_i x xs E
   obtain⟨v,R,rfl⟩:=oL hs
   rw[E]at hL
   refine ea (mu:=mu) ?_
   simp only[cC,<-hL,X.af,mM,Wa R,c6];rfl
  ·rename_i x xs E
   obtain⟨v,R,rfl⟩:=oL hs
   rw[E]at hL
   refine ea (mu:=mu) ?_
   simp only[cC,<-hL,X.af,mM,We R,c6];rfl
  ·rename_i ty xt s x A E
   obtain⟨p,R,rfl⟩:=T.jd _ (hY a_ (hY a_ hs))
   rw[E]at hL
   refine ea (mu:=mu) ?_
   simp only[cC,A,<-hL,X.af,mM,acI a_ u R,lq]
  ·rename_i ty xt s x A E
   obtain⟨p,R,rfl⟩:=Option.map_eq_some_iff.1 (e5 (hY a_ hs))
   rw[E]at hL
   refine ea (mu:=mu) ?_
   simp only[cC,A,<-hL,X.af,mM,adL R,lq]
  ·obtain⟨v,R,rfl⟩:=oL hs
   have hb:=adM (ρ:=ρ) R
   rw[hL]at hb
   refine ea (mu:=mu) ?_
   simp only[cC]
   exact adl R hb
 ·rename_i x args gG
  split at hs
  ·rename_i f xs ys hx
   cases hs
   simp only[XR.Y9,cC,<-eN Z,hx,X.I,El,<-EZ Z,X.gp]
  ·cases hs
 ·cases hs
end Go.Proofs.Xw
