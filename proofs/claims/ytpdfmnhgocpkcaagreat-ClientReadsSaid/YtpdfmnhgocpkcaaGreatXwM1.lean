/- Parts of the logic that the proof runs in, one behind the other. -/
import Derived.Test.YtpdfmnhgocpkcaaGreatTM1
namespace Go.Proofs.Xw
open Go Go.Proofs.Aw
abbrev NA:={v:AV // Aw.nms (fun _=>false) v=true/\v.one=true}
def UB:Nat->Nat->Nat->NA:=fun _ _ _=>⟨.sc (.bool false),rfl,rfl⟩
structure Rho where
 i:Nat->Int
 b:Nat->Bool
 s:Nat->ByteArray
 len:Nat->Nat
 ci:Nat->Nat->Nat->Int
 cb:Nat->Nat->Nat->Bool
 cs:Nat->Nat->Nat->ByteArray
 ct:Nat->Nat->Nat->NA
inductive IOp where
 | add | sub | mul | quo | rem | and | or | xor | andNot | shl | shr | max | min | conv | padd | psub | pmul
 deriving DecidableEq,Inhabited
def IOp.den:IOp->IntKind->Int->Int->Int
 | .add,k,a,b=>k.wrap (a+b)
 | .sub,k,a,b=>k.wrap (a-b)
 | .mul,k,a,b=>k.wrap (a*b)
 | .quo,k,a,b=>k.wrap (a.tdiv b)
 | .rem,_,a,b=>a.tmod b
 | .and,k,a,b=>bits .and k a b
 | .or,k,a,b=>bits .or k a b
 | .xor,k,a,b=>bits .xor k a b
 | .andNot,k,a,b=>bits .andNot k a b
 | .shl,k,a,b=>k.wrap (a*2 ^ (Min.min b.toNat k.bits))
 | .shr,k,a,b=>a.fdiv (2 ^ (Min.min b.toNat k.bits))
 | .max,_,a,b=>Max.max a b
 | .min,_,a,b=>Min.min a b
 | .conv,k,a,_=>k.wrap a
 | .padd,_,a,b=>a+b
 | .psub,_,a,b=>a-b
 | .pmul,_,a,b=>a*b
mutual
inductive IE where
 | lit (n:Int) | var (i:Nat) | cl (l k:Nat) (j:IE) | len (l:Nat) | slen (t:TE) | byt (t:TE) (j:IE)
 | op (o:IOp) (k:IntKind) (a b:IE) | ite (c:BE) (a b:IE) | uf (k j:Nat) (a:AL)
inductive AL where
 | nil | i (e:IE) (r:AL) | b (e:BE) (r:AL) | s (e:TE) (r:AL)
inductive BE where
 | lit (b:Bool) | var (i:Nat) | cl (l k:Nat) (j:IE) | lt (a b:IE) | eq (a b:IE) | seq (a b:TE) | slt (a b:TE)
 | not (a:BE) | and (a b:BE) | or (a b:BE) | ite (c a b:BE)
inductive TE where
 | lit (s:ByteArray) | var (i:Nat) | cl (l k:Nat) (j:IE) | sub (t:TE) (a b:IE) | ite (c:BE) (a b:TE)
end
instance:Inhabited IE:=⟨.lit 0⟩
instance:Inhabited BE:=⟨.lit false⟩
instance:Inhabited TE:=⟨.var 0⟩
mutual
noncomputable def IE.den (J:Rho):IE->Int
 | .lit n=>n
 | .var i=>J.i i
 | .cl l k j=>J.ci l k (j.den J).toNat
 | .len l=>J.len l
 | .slen t=>(t.den J).size
 | .byt t j=>(((t.den J)[(j.den J).toNat]?).getD 0).toNat
 | .op o k a b=>o.den k (a.den J) (b.den J)
 | .ite c a b=>if c.den J=true then a.den J else b.den J
 | .uf k j a=>UF k (a.den J) j
noncomputable def AL.den (J:Rho):AL->List Value
 | .nil=>[]
 | .i e r => .int .i64 (e.den J)::r.den J
 | .b e r => .bool (e.den J)::r.den J
 | .s e r => .string (e.den J)::r.den J
noncomputable def BE.den (J:Rho):BE->Bool
 | .lit b=>b
 | .var i=>J.b i
 | .cl l k j=>J.cb l k (j.den J).toNat
 | .lt a b=>decide (a.den J<b.den J)
 | .eq a b=>a.den J==b.den J
 | .seq a b=>(a.den J).toList==(b.den J).toList
 | .slt a b=>Op.bytesLess (a.den J).toList (b.den J).toList
 | .not a => !a.den J
 | .and a b=>a.den J&&b.den J
 | .or a b=>a.den J||b.den J
 | .ite c a b=>if c.den J=true then a.den J else b.den J
noncomputable def TE.den (J:Rho):TE->ByteArray
 | .lit s=>s
 | .var i=>J.s i
 | .cl l k j=>J.cs l k (j.den J).toNat
 | .sub t a b=>(t.den J).extract (a.den J).toNat (b.den J).toNat
 | .ite c a b=>if c.den J=true then a.den J else b.den J
end
def aR3:IntKind->Nat
 | .i8=>0 | .i16=>1 | .i32=>2 | .i64=>3 | .u8=>4 | .u16=>5 | .u32=>6 | .u64=>7
def A7 (a b:IntKind):Bool:=Nat.beq (aR3 a) (aR3 b)
theorem lC {a b:IntKind} (h:A7 a b=true):a=b:=by cases a<;>cases b<;>first | rfl | exact absurd h (by decide)
def IOp.code:IOp->Nat
 | .add=>0 | .sub=>1 | .mul=>2 | .quo=>3 | .rem=>4 | .and=>5 | .or=>6 | .xor=>7 | .andNot=>8 | .shl=>9 | .shr=>10 | .max=>11 | .min=>12 | .conv=>13 | .padd=>14 | .psub=>15 | .pmul=>16
def IOp.beq (a b:IOp):Bool:=Nat.beq a.code b.code
theorem IOp.beq_eq {a b:IOp} (h:a.beq b=true):a=b:=by cases a<;>cases b<;>first | rfl | exact absurd h (by decide)
def Gs (a b:ByteArray):Bool:=a.data.toList==b.data.toList
theorem Ph {a b:ByteArray} (h:Gs a b=true):a=b:=by
 obtain⟨⟨a⟩⟩:=a
 obtain⟨⟨b⟩⟩:=b
 simp only[Gs,beq_iff_eq]at h
 rw[h]
mutual
def IE.beq:IE->IE->Bool
 | .lit a,.lit b=>a==b
 | .var a,.var b=>Nat.beq a b
 | .cl l k j,.cl l' k' j'=>Nat.beq l l'&&(Nat.beq k k'&&j.beq j')
 | .len a,.len b=>Nat.beq a b
 | .slen a,.slen b=>a.beq b
 | .byt t j,.byt t' j'=>t.beq t'&&j.beq j'
 | .op o k a b,.op o' k' a' b'=>o.beq o'&&(A7 k k'&&(a.beq a'&&b.beq b'))
 | .ite c a b,.ite c' a' b'=>c.beq c'&&(a.beq a'&&b.beq b')
 | .uf k j a,.uf k' j' a'=>Nat.beq k k'&&(Nat.beq j j'&&a.beq a')
 | _,_=>false
def AL.beq:AL->AL->Bool
 | .nil,.nil=>true
 | .i e r,.i e' r'=>e.beq e'&&r.beq r'
 | .b e r,.b e' r'=>e.beq e'&&r.beq r'
 | .s e r,.s e' r'=>e.beq e'&&r.beq r'
 | _,_=>false
def BE.beq:BE->BE->Bool
 | .lit a,.lit b=>a==b
 | .var a,.var b=>Nat.beq a b
 | .cl l k j,.cl l' k' j'=>Nat.beq l l'&&(Nat.beq k k'&&j.beq j')
 | .lt a b,.lt a' b'=>a.beq a'&&b.beq b'
 | .eq a b,.eq a' b'=>a.beq a'&&b.beq b'
 | .seq a b,.seq a' b'=>a.beq a'&&b.beq b'
 | .slt a b,.slt a' b'=>a.beq a'&&b.beq b'
 | .not a,.not a'=>a.beq a'
 | .and a b,.and a' b'=>a.beq a'&&b.beq b'
 | .or a b,.or a' b'=>a.beq a'&&b.beq b'
 | .ite c a b,.ite c' a' b'=>c.beq c'&&(a.beq a'&&b.beq b')
 | _,_=>false
def TE.beq:TE->TE->Bool
 | .lit a,.lit b=>Gs a b
 | .var a,.var b=>Nat.beq a b
 | .cl l k j,.cl l' k' j'=>Nat.beq l l'&&(Nat.beq k k'&&j.beq j')
 | .sub t a b,.sub t' a' b'=>t.beq t'&&(a.beq a'&&b.beq b')
 | .ite c a b,.ite c' a' b'=>c.beq c'&&(a.beq a'&&b.beq b')
 | _,_=>false
end
mutual
theorem IE.beq_eq:∀(a b:IE),a.beq b=true->a=b
 | .lit a,b,h=>by cases b<;>simp[IE.beq]at h ⊢;exact h
 | .var a,b,h=>by cases b<;>simp[IE.beq]at h ⊢;exact h
 | .cl l k j,b,h=>by
  cases b<;>simp[IE.beq]at h ⊢
  exact⟨h.1,h.2.1,IE.beq_eq _ _ h.2.2⟩
 | .len a,b,h=>by cases b<;>simp[IE.beq]at h ⊢;exact h
 | .slen a,b,h=>by
  cases b<;>simp[IE.beq]at h ⊢
  exact TE.beq_eq _ _ h
 | .byt t j,b,h=>by
  cases b<;>simp[IE.beq]at h ⊢
  exact⟨TE.beq_eq _ _ h.1,IE.beq_eq _ _ h.2⟩
 | .op o k x y,b,h=>by
  cases b<;>simp[IE.beq]at h ⊢
  exact⟨IOp.beq_eq h.1,lC h.2.1,IE.beq_eq _ _ h.2.2.1,IE.beq_eq _ _ h.2.2.2⟩
 | .ite c x y,b,h=>by
  cases b<;>simp[IE.beq]at h ⊢
  exact⟨BE.beq_eq _ _ h.1,IE.beq_eq _ _ h.2.1,IE.beq_eq _ _ h.2.2⟩
 | .uf k j x,b,h=>by
  cases b<;>simp[IE.beq]at h ⊢
  exact⟨h.1,h.2.1,AL.beq_eq _ _ h.2.2⟩
theorem AL.beq_eq:∀(a b:AL),a.beq b=true->a=b
 | .nil,b,h=>by cases b<;>simp[AL.beq]at h ⊢
 | .i x y,b,h=>by
  cases b<;>simp[AL.beq]at h ⊢
  exact⟨IE.beq_eq _ _ h.1,AL.beq_eq _ _ h.2⟩
 | .b x y,b,h=>by
  cases b<;>simp[AL.beq]at h ⊢
  exact⟨BE.beq_eq _ _ h.1,AL.beq_eq _ _ h.2⟩
 | .s x y,b,h=>by
  cases b<;>simp[AL.beq]at h ⊢
  exact⟨TE.beq_eq _ _ h.1,AL.beq_eq _ _ h.2⟩
theorem BE.beq_eq:∀(a b:BE),a.beq b=true->a=b
 | .lit a,b,h=>by cases b<;>simp[BE.beq]at h ⊢;exact h
 | .var a,b,h=>by cases b<;>simp[BE.beq]at h ⊢;exact h
 | .cl l k j,b,h=>by
  cases b<;>simp[BE.beq]at h ⊢
  exact⟨h.1,h.2.1,IE.beq_eq _ _ h.2.2⟩
 | .lt x y,b,h=>by
  cases b<;>simp[BE.beq]at h ⊢
  exact⟨IE.beq_eq _ _ h.1,IE.beq_eq _ _ h.2⟩
 | .eq x y,b,h=>by
  cases b<;>simp[BE.beq]at h ⊢
  exact⟨IE.beq_eq _ _ h.1,IE.beq_eq _ _ h.2⟩
 | .seq x y,b,h=>by
  cases b<;>simp[BE.beq]at h ⊢
  exact⟨TE.beq_eq _ _ h.1,TE.beq_eq _ _ h.2⟩
 | .slt x y,b,h=>by
  cases b<;>simp[BE.beq]at h ⊢
  exact⟨TE.beq_eq _ _ h.1,TE.beq_eq _ _ h.2⟩
 | .not x,b,h=>by
  cases b<;>simp[BE.beq]at h ⊢
  exact BE.beq_eq _ _ h
 | .and x y,b,h=>by
  cases b<;>simp[BE.beq]at h ⊢
  exact⟨BE.beq_eq _ _ h.1,BE.beq_eq _ _ h.2⟩
 | .or x y,b,h=>by
  cases b<;>simp[BE.beq]at h ⊢
  exact⟨BE.beq_eq _ _ h.1,BE.beq_eq _ _ h.2⟩
 | .ite c x y,b,h=>by
  cases b<;>simp[BE.beq]at h ⊢
  exact⟨BE.beq_eq _ _ h.1,BE.beq_eq _ _ h.2.1,BE.beq_eq _ _ h.2.2⟩
theorem TE.beq_eq:∀(a b:TE),a.beq b=true->a=b
 | .lit a,b,h=>by
  cases b<;>simp[TE.beq]at h ⊢
  exact Ph h
 | .var a,b,h=>by cases b<;>simp[TE.beq]at h ⊢;exact h
 | .cl l k j,b,h=>by
  cases b<;>simp[TE.beq]at h ⊢
  exact⟨h.1,h.2.1,IE.beq_eq _ _ h.2.2⟩
 | .sub t x y,b,h=>by
  cases b<;>simp[TE.beq]at h ⊢
  exact⟨TE.beq_eq _ _ h.1,IE.beq_eq _ _ h.2.1,IE.beq_eq _ _ h.2.2⟩
 | .ite c x y,b,h=>by
  cases b<;>simp[TE.beq]at h ⊢
  exact⟨BE.beq_eq _ _ h.1,TE.beq_eq _ _ h.2.1,TE.beq_eq _ _ h.2.2⟩
end
def mkNot:BE->BE
 | .lit b => .lit (!b)
 | .not a=>a
 | a => .not a
theorem bz (J:Rho) (a:BE):(mkNot a).den J = !a.den J:=by
 unfold mkNot;split<;>simp[BE.den]
def BE.compl:BE->BE->Bool
 | .not a,b=>a.beq b
 | a,.not b=>a.beq b
 | _,_=>false
theorem BE.compl_den {J:Rho} {a b:BE} (h:a.compl b=true):(a.den J||b.den J)=true:=by
 unfold BE.compl at h
 split at h
 ·rw[BE.beq_eq _ _ h];simp[BE.den]
 ·rw[BE.beq_eq _ _ h];simp[BE.den]
 ·cases h
theorem BE.compl_den' {J:Rho} {a b:BE} (h:a.compl b=true):(a.den J&&b.den J)=false:=by
 unfold BE.compl at h
 split at h
 ·rw[BE.beq_eq _ _ h];simp[BE.den]
 ·rw[BE.beq_eq _ _ h];simp[BE.den]
 ·cases h
def mkAnd (a b:BE):BE :=
 match a,b with
 | .lit true,b=>b
 | .lit false,_ => .lit false
 | a,.lit true=>a
 | _,.lit false => .lit false
 | a,.or c d=>if a.compl c=true then .and a d else if a.beq c=true then a else .and a (.or c d)
 | a,b=>if a.beq b=true then a else if a.compl b=true then .lit false else .and a b
theorem df (J:Rho) (a b:BE):(mkAnd a b).den J=(a.den J&&b.den J):=by
 unfold mkAnd
 split
 ·simp[BE.den]
 ·simp[BE.den]
 ·simp[BE.den]
 ·simp[BE.den]
 ·split
  ·rename_i h
   have:=BE.compl_den' (J:=J) h
   simp only[BE.den]
   cases ha:BE.den J a
   ·simp
   ·rw[ha,Bool.true_and]at this;simp[this]
  ·split
   ·rename_i h;rw[BE.beq_eq _ _ h];simp only[BE.den];cases BE.den J _<;>simp
   ·simp[BE.den]
 ·split
  ·rename_i h;rw[BE.beq_eq _ _ h];simp
  ·split
   ·rename_i h;rw[BE.compl_den' h];rfl
   ·simp[BE.den]
def AU (a b:BE):BE :=
 match a,b with
 | .lit false,b=>b
 | .lit true,_ => .lit true
 | a,.lit false=>a
 | _,.lit true => .lit true
 | a,.and c d=>if a.compl c=true then .or a d else if a.beq c=true then a else .or a (.and c d)
 | a,b=>if a.beq b=true then a else if a.compl b=true then .lit true else .or a b
theorem jD (J:Rho) (a b:BE):(AU a b).den J=(a.den J||b.den J):=by
 unfold AU
 split
 ·simp[BE.den]
 ·simp[BE.den]
 ·simp[BE.den]
 ·simp[BE.den]
 ·split
  ·rename_i h
   have:=BE.compl_den (J:=J) h
   simp only[BE.den]
   cases ha:BE.den J a
   ·rw[ha,Bool.false_or]at this;simp[this]
   ·simp
  ·split
   ·rename_i h;rw[BE.beq_eq _ _ h];simp only[BE.den];cases BE.den J _<;>simp
   ·simp[BE.den]
 ·split
  ·rename_i h;rw[BE.beq_eq _ _ h];simp
  ·split
   ·rename_i h;rw[BE.compl_den h];rfl
   ·simp[BE.den]
def jg (c a b:BE):BE :=
 match c with
 | .lit true=>a
 | .lit false=>b
 | c=>if a.beq b=true then a else
  match a,b with
  | .lit true,.lit false=>c
  | .lit false,.lit true=>mkNot c
  | .lit true,b=>AU c b
  | .lit false,b=>mkAnd (mkNot c) b
  | a,.lit true=>AU (mkNot c) a
  | a,.lit false=>mkAnd c a
  | a,b => .ite c a b
theorem dU (J:Rho) (c a b:BE):(jg c a b).den J=if c.den J=true then a.den J else b.den J:=by
 unfold jg
 split
 ·simp[BE.den]
 ·simp[BE.den]
 ·split
  ·rename_i h;rw[BE.beq_eq _ _ h];simp
  ·split<;>simp only[bz,jD,df,BE.den]<;>cases BE.den J c<;>simp
def lu (c:BE) (a b:IE):IE :=
 match c with
 | .lit true=>a
 | .lit false=>b
 | c=>if a.beq b=true then a else .ite c a b
theorem jF (J:Rho) (c:BE) (a b:IE):(lu c a b).den J=if c.den J=true then a.den J else b.den J:=by
 unfold lu
 split
 ·simp[BE.den]
 ·simp[BE.den]
 ·split
  ·rename_i h;rw[IE.beq_eq _ _ h];simp
  ·simp[IE.den]
def KE (c:BE) (a b:TE):TE :=
 match c with
 | .lit true=>a
 | .lit false=>b
 | c=>if a.beq b=true then a else .ite c a b
theorem EQ (J:Rho) (c:BE) (a b:TE):(KE c a b).den J=if c.den J=true then a.den J else b.den J:=by
 unfold KE
 split
 ·simp[BE.den]
 ·simp[BE.den]
 ·split
  ·rename_i h;rw[TE.beq_eq _ _ h];simp
  ·simp[TE.den]
def mkEq:IE->IE->BE
 | .lit m,.lit n => .lit (m==n)
 | .lit m,b => .eq b (.lit m)
 | .ite c a b,.lit n=>jg c (mkEq a (.lit n)) (mkEq b (.lit n))
 | a,b=>if a.beq b=true then .lit true else .eq a b
theorem cZ (J:Rho):∀(a b:IE),(mkEq a b).den J=(a.den J==b.den J):=by
 intro a b
 fun_induction mkEq a b with
 | case1=>simp[BE.den,IE.den]
 | case2 m b h=>simp only[BE.den,IE.den,BEq.comm]
 | case3 c a b n ih1 ih2=>rw[dU,ih1,ih2];simp only[IE.den];split<;>rfl
 | case4=>rename_i h;rw[IE.beq_eq _ _ h];simp[BE.den]
 | case5 a b=>simp[BE.den]
def iH (n:Int):IE->BE
 | .lit m => .lit (decide (m<n))
 | .ite c a b=>jg c (iH n a) (iH n b)
 | a => .lt a (.lit n)
theorem KH (J:Rho) (n:Int):∀a:IE,(iH n a).den J=decide (a.den J<n)
 | .lit m=>by simp only[iH,BE.den,IE.den];exact decide_eq_decide.2 Iff.rfl
 | .ite c a b=>by simp only[iH,dU,KH J n a,KH J n b,IE.den];split<;>rfl
 | .var i=>by simp only[iH,BE.den];exact decide_eq_decide.2 Iff.rfl
 | .cl l k j=>by simp only[iH,BE.den];exact decide_eq_decide.2 Iff.rfl
 | .len l=>by simp only[iH,BE.den];exact decide_eq_decide.2 Iff.rfl
 | .slen t=>by simp only[iH,BE.den];exact decide_eq_decide.2 Iff.rfl
 | .byt t j=>by simp only[iH,BE.den];exact decide_eq_decide.2 Iff.rfl
 | .op o k a b=>by simp only[iH,BE.den];exact decide_eq_decide.2 Iff.rfl
 | .uf _ _ _=>by simp only[iH,BE.den];exact decide_eq_decide.2 Iff.rfl
def Xv (n:Int):IE->BE
 | .lit m => .lit (decide (n<m))
 | .ite c a b=>jg c (Xv n a) (Xv n b)
 | a => .lt (.lit n) a
theorem KG (J:Rho) (n:Int):∀a:IE,(Xv n a).den J=decide (n<a.den J)
 | .lit m=>by simp only[Xv,BE.den,IE.den];exact decide_eq_decide.2 Iff.rfl
 | .ite c a b=>by simp only[Xv,dU,KG J n a,KG J n b,IE.den];split<;>rfl
 | .var i=>by simp only[Xv,BE.den];exact decide_eq_decide.2 Iff.rfl
 | .cl l k j=>by simp only[Xv,BE.den];exact decide_eq_decide.2 Iff.rfl
 | .len l=>by simp only[Xv,BE.den];exact decide_eq_decide.2 Iff.rfl
 | .slen t=>by simp only[Xv,BE.den];exact decide_eq_decide.2 Iff.rfl
 | .byt t j=>by simp only[Xv,BE.den];exact decide_eq_decide.2 Iff.rfl
 | .op o k a b=>by simp only[Xv,BE.den];exact decide_eq_decide.2 Iff.rfl
 | .uf _ _ _=>by simp only[Xv,BE.den];exact decide_eq_decide.2 Iff.rfl
def base:IE->IE×Int
 | .op .padd _ a (.lit c)=>(a,c)
 | .op .padd _ (.lit c) a=>(a,c)
 | .op .psub _ a (.lit c)=>(a,-c)
 | a=>(a,0)
theorem je (J:Rho) (a:IE):a.den J=(base a).1.den J+(base a).2:=by
 unfold base
 split<;>simp only[IE.den,IOp.den]<;>omega
def eU:IE->IE->BE
 | a,.lit n=>iH n a
 | .lit n,b=>Xv n b
 | a,b=>if(base a).1.beq (base b).1=true then .lit (decide ((base a).2<(base b).2))else .lt a b
theorem dY (J:Rho) (a b:IE):(eU a b).den J=decide (a.den J<b.den J):=by
 unfold eU
 split
 ·rw[KH];exact decide_eq_decide.2 Iff.rfl
 ·rw[KG];exact decide_eq_decide.2 Iff.rfl
 ·split
  ·rename_i h
   rw[je J a,je J b,IE.beq_eq _ _ h]
   simp only[BE.den]
   exact decide_eq_decide.2 (by omega)
  ·simp only[BE.den]
def BV:TE->TE->BE
 | .lit m,.lit n => .lit (m.toList==n.toList)
 | a,b=>if a.beq b=true then .lit true else .seq a b
theorem AQ (J:Rho) (a b:TE):(BV a b).den J=((a.den J).toList==(b.den J).toList):=by
 unfold BV
 split
 ·simp[BE.den,TE.den]
 ·split
  ·rename_i h;rw[TE.beq_eq _ _ h];simp[BE.den]
  ·simp[BE.den]
def rP (o:IOp) (k:IntKind) (a b:IE):IE :=
 match a,b with
 | .lit m,.lit n => .lit (o.den k m n)
 | a,b => .op o k a b
theorem jE (J:Rho) (o:IOp) (k:IntKind) (a b:IE):(rP o k a b).den J=o.den k (a.den J) (b.den J):=by
 unfold rP;split<;>simp[IE.den]
def zi:IE->IE->IE
 | .lit m,.lit n => .lit (m*n)
 | a,.lit n=>if n==0 then .lit 0 else if n==1 then a else .op .pmul .i64 (.lit n) a
 | .lit n,b=>if n==0 then .lit 0 else if n==1 then b else .op .pmul .i64 (.lit n) b
 | a,b => .op .pmul .i64 a b
theorem oG (J:Rho) (a b:IE):(zi a b).den J=a.den J*b.den J:=by
 unfold zi
 split
 ·simp[IE.den]
 ·split
  ·rename_i h;simp only[beq_iff_eq]at h;subst h;simp[IE.den]
  ·split
   ·rename_i h;simp only[beq_iff_eq]at h;subst h;simp[IE.den]
   ·simp only[IE.den,IOp.den];exact Int.mul_comm _ _
 ·split
  ·rename_i h;simp only[beq_iff_eq]at h;subst h;simp[IE.den]
  ·split
   ·rename_i h;simp only[beq_iff_eq]at h;subst h;simp[IE.den]
   ·simp only[IE.den,IOp.den]
 ·simp[IE.den,IOp.den]
def uH:TE->IE
 | .lit s => .lit s.size
 | t => .slen t
theorem l9 (J:Rho) (t:TE):(uH t).den J=(t.den J).size:=by
 unfold uH;split<;>simp[IE.den,TE.den]
def Iz (a b:BE):BE:=if a.beq b=true then .lit true else jg a b (mkNot b)
theorem wo (J:Rho) (a b:BE):(Iz a b).den J=(a.den J==b.den J):=by
 unfold Iz
 split
 ·rename_i h;rw[BE.beq_eq _ _ h];simp[BE.den]
 ·rw[dU,bz];cases a.den J<;>cases b.den J<;>rfl
end Go.Proofs.Xw
namespace Go.Proofs.Xw
open Go Go.Proofs.Aw
abbrev Facts:=List (BE×Bool)
def Facts.ok (J:Rho) (Φ:Facts):Prop:=∀p∈Φ,p.1.den J=p.2
theorem Facts.ok_nil (J:Rho):Facts.ok J []:=fun _ h=>by cases h
theorem Facts.ok_cons {J:Rho} {c:BE} {v:Bool} {Φ:Facts} (h:c.den J=v) (hk:Facts.ok J Φ):Facts.ok J ((c,v)::Φ):=fun p hp=>by
 rcases List.mem_cons.1 hp with rfl | hp
 ·exact h
 ·exact hk p hp
theorem Facts.ok_tail {J:Rho} {p:BE×Bool} {Φ:Facts} (h:Facts.ok J (p::Φ)):p.1.den J=p.2/\Facts.ok J Φ:=⟨h p List.mem_cons_self,fun q hq=>h q (List.mem_cons_of_mem _ hq)⟩
structure Iv where
 lo:Option Int
 hi:Option Int
def Iv.ok (v:Iv) (x:Int):Prop:=(∀l,v.lo=some l->l<=x)/\(∀h,v.hi=some h->x<=h)
def aC4:Option Int->Option Int->Option Int
 | some a,some b=>some (if a<b then b else a)
 | some a,none=>some a
 | none,b=>b
def Wj:Option Int->Option Int->Option Int
 | some a,some b=>some (if b<a then b else a)
 | some a,none=>some a
 | none,b=>b
def Iv.meet (a b:Iv):Iv:=⟨aC4 a.lo b.lo,Wj a.hi b.hi⟩
theorem Iv.meet_ok {a b:Iv} {x:Int} (ha:a.ok x) (hb:b.ok x):(a.meet b).ok x:=by
 obtain⟨al,ah⟩:=a
 obtain⟨bl,bh⟩:=b
 refine⟨fun l hl => ?_,fun h hh => ?_⟩
 ·cases al<;>cases bl<;>simp only[Iv.meet,aC4,Option.some.injEq,reduceCtorEq]at hl
  ·exact hb.1 _ (by simp[hl])
  ·exact ha.1 _ (by simp[hl])
  ·subst hl;split
   ·exact hb.1 _ rfl
   ·exact ha.1 _ rfl
 ·cases ah<;>cases bh<;>simp only[Iv.meet,Wj,Option.some.injEq,reduceCtorEq]at hh
  ·exact hb.2 _ (by simp[hh])
  ·exact ha.2 _ (by simp[hh])
  ·subst hh;split
   ·exact hb.2 _ rfl
   ·exact ha.2 _ rfl
def QS (e:IE):BE×Bool->Iv
 | (.lt a (.lit n),true)=>if a.beq e=true then⟨none,some (n-1)⟩else⟨none,none⟩
 | (.lt a (.lit n),false)=>if a.beq e=true then⟨some n,none⟩else⟨none,none⟩
 | (.lt (.lit n) a,true)=>if a.beq e=true then⟨some (n+1),none⟩else⟨none,none⟩
 | (.lt (.lit n) a,false)=>if a.beq e=true then⟨none,some n⟩else⟨none,none⟩
 | (.eq a (.lit n),true)=>if a.beq e=true then⟨some n,some n⟩else⟨none,none⟩
 | _=>⟨none,none⟩
theorem Iv.none_ok (x:Int):Iv.ok ⟨none,none⟩ x:=⟨fun _ h=>(by cases h),fun _ h=>(by cases h)⟩
theorem XL {J:Rho} {e:IE} {p:BE×Bool} (h:p.1.den J=p.2):(QS e p).ok (e.den J):=by
 unfold QS
 split
 ·split
  ·rename_i hb
   rw[<-IE.beq_eq _ _ hb]
   have h:=of_decide_eq_true h
   simp only[IE.den]at h
   exact⟨fun _ hh=>(by cases hh),fun _ hh=>(by cases hh;omega)⟩
  ·exact Iv.none_ok _
 ·split
  ·rename_i hb
   rw[<-IE.beq_eq _ _ hb]
   have h:=of_decide_eq_false h
   simp only[IE.den]at h
   exact⟨fun _ hh=>(by cases hh;omega),fun _ hh=>(by cases hh)⟩
  ·exact Iv.none_ok _
 ·split
  ·rename_i hb
   rw[<-IE.beq_eq _ _ hb]
   have h:=of_decide_eq_true h
   simp only[IE.den]at h
   exact⟨fun _ hh=>(by cases hh;omega),fun _ hh=>(by cases hh)⟩
  ·exact Iv.none_ok _
 ·split
  ·rename_i hb
   rw[<-IE.beq_eq _ _ hb]
   have h:=of_decide_eq_false h
   simp only[IE.den]at h
   exact⟨fun _ hh=>(by cases hh),fun _ hh=>(by cases hh;omega)⟩
  ·exact Iv.none_ok _
 ·split
  ·rename_i hb
   rw[<-IE.beq_eq _ _ hb]
   simp only[BE.den,IE.den,beq_iff_eq]at h
   exact⟨fun _ hh=>(by cases hh;omega),fun _ hh=>(by cases hh;omega)⟩
  ·exact Iv.none_ok _
 ·exact Iv.none_ok _
def QT:IE->Iv
 | .lit n=>⟨some n,some n⟩
 | .len _=>⟨some 0,none⟩
 | .slen _=>⟨some 0,none⟩
 | .byt _ _=>⟨some 0,some 255⟩
 | .uf k _ _=>⟨some (MK k).1,some (MK k).2⟩
 | _=>⟨none,none⟩
theorem XM (J:Rho) (e:IE):(QT e).ok (e.den J):=by
 unfold QT
 split
 ·exact⟨fun _ hh=>(by cases hh;simp[IE.den]),fun _ hh=>(by cases hh;simp[IE.den])⟩
 ·exact⟨fun _ hh=>(by cases hh;simp[IE.den]),fun _ hh=>(by cases hh)⟩
 ·exact⟨fun _ hh=>(by cases hh;simp[IE.den]),fun _ hh=>(by cases hh)⟩
 ·refine⟨fun _ hh=>(by cases hh;simp[IE.den]),fun _ hh => ?_⟩
  cases hh
  simp only[IE.den]
  have:=UInt8.toNat_lt ((((TE.den J ‹TE›)[(IE.den J ‹IE›).toNat]?).getD 0))
  omega
 ·exact⟨fun _ hh=>(by cases hh;exact(Jr _ _ _).1),fun _ hh=>(by cases hh;exact(Jr _ _ _).2)⟩
 ·exact Iv.none_ok _
def Oy (e:IE):Facts->Iv
 | []=>QT e
 | p::Φ=>(QS e p).meet (Oy e Φ)
theorem kz {J:Rho} {e:IE}:∀{Φ:Facts},Facts.ok J Φ->(Oy e Φ).ok (e.den J)
 | [],_=>XM J e
 | _::_,h=>Iv.meet_ok (XL (Facts.ok_tail h).1) (kz (Facts.ok_tail h).2)
def XI (a b:Iv):Option Bool :=
 match a.hi,b.lo with
 | some h,some l=>if h<l then some true else(match a.lo,b.hi with | some l',some h'=>if h'<=l' then some false else none | _,_=>none)
 | _,_=>match a.lo,b.hi with | some l',some h'=>if h'<=l' then some false else none | _,_=>none
theorem wE {a b:Iv} {x y:Int} {r:Bool} (ha:a.ok x) (hb:b.ok y) (h:XI a b=some r):decide (x<y)=r:=by
 unfold XI at h
 split at h
 ·rename_i hh l h1 h2
  have:=ha.2 _ h1
  have:=hb.1 _ h2
  split at h
  ·cases h;exact decide_eq_true (by omega)
  ·split at h
   ·rename_i h3 h4
    have:=ha.1 _ h3
    have:=hb.2 _ h4
    split at h
    ·cases h;exact decide_eq_false (by omega)
    ·cases h
   ·cases h
 ·split at h
  ·rename_i h3 h4
   have:=ha.1 _ h3
   have:=hb.2 _ h4
   split at h
   ·cases h;exact decide_eq_false (by omega)
   ·cases h
  ·cases h
def aG8 (a b:Iv):Option Bool :=
 match XI a b,XI b a with
 | some true,_=>some false
 | _,some true=>some false
 | some false,some false=>some true
 | _,_=>none
theorem UU {a b:Iv} {x y:Int} {r:Bool} (ha:a.ok x) (hb:b.ok y) (h:aG8 a b=some r):(x==y)=r:=by
 unfold aG8 at h
 split at h
 ·rename_i h1
  have:=wE ha hb h1
  cases h;simp only[decide_eq_true_eq]at this
  exact beq_eq_false_iff_ne.2 (by omega)
 ·rename_i h1 _
  have:=wE hb ha h1
  cases h;simp only[decide_eq_true_eq]at this
  exact beq_eq_false_iff_ne.2 (by omega)
 ·rename_i h1 h2
  have:=wE ha hb h1
  have:=wE hb ha h2
  cases h;simp only[decide_eq_false_iff_not]at *
  exact beq_iff_eq.2 (by omega)
 ·cases h
def aD2:Option Int->Option Int->Option Int
 | some a,some b=>some (a+b)
 | _,_=>none
theorem Ir {a b:Option Int} {c:Int} (h:aD2 a b=some c):∃x y,a=some x/\b=some y/\c=x+y:=by
 unfold aD2 at h
 split at h
 ·cases h;exact⟨_,_,rfl,rfl,rfl⟩
 ·cases h
def Oz (a b:Iv):Iv:=⟨aD2 a.lo b.lo,aD2 a.hi b.hi⟩
theorem zx {a b:Iv} {x y:Int} (ha:a.ok x) (hb:b.ok y):(Oz a b).ok (x+y):=by
 refine⟨fun l hl => ?_,fun l hl => ?_⟩
 ·obtain⟨p,q,hp,hq,rfl⟩:=Ir hl
  have:=ha.1 p hp
  have:=hb.1 q hq
  omega
 ·obtain⟨p,q,hp,hq,rfl⟩:=Ir hl
  have:=ha.2 p hp
  have:=hb.2 q hq
  omega
def bL9:Option Int->Option Int
 | some a=>some (-a)
 | none=>none
def ah1 (a:Iv):Iv:=⟨bL9 a.hi,bL9 a.lo⟩
theorem Ov {a:Iv} {x:Int} (ha:a.ok x):(ah1 a).ok (-x):=by
 obtain⟨lo,hi⟩:=a
 refine⟨fun l hl => ?_,fun l hl => ?_⟩
 ·cases hi with
  | none=>cases hl
  | some h=>cases hl;have:=ha.2 h rfl;omega
 ·cases lo with
  | none=>cases hl
  | some h=>cases hl;have:=ha.1 h rfl;omega
def OB (a b:Int):Int:=if a<b then a else b
def OC (a b:Int):Int:=if a<b then b else a
def UT:Iv->Iv->Iv
 | ⟨some a,some b⟩,⟨some c,some d⟩=>⟨some (OB (OB (a*c) (a*d)) (OB (b*c) (b*d))),some (OC (OC (a*c) (a*d)) (OC (b*c) (b*d)))⟩
 | _,_=>⟨none,none⟩
theorem uG {x c d y:Int} (h1:c<=y) (h2:y<=d):OB (x*c) (x*d)<=x*y/\x*y<=OC (x*c) (x*d):=by
 unfold OB OC
 rcases Int.le_total 0 x with h | h
 ·have a1:=Int.mul_le_mul_of_nonneg_left h1 h
  have a2:=Int.mul_le_mul_of_nonneg_left h2 h
  constructor<;>split<;>omega
 ·have a1:=Int.mul_le_mul_of_nonpos_left h h1
  have a2:=Int.mul_le_mul_of_nonpos_left h h2
  constructor<;>split<;>omega
theorem Ox {u v:Iv} {x y:Int} (hu:u.ok x) (hv:v.ok y):(UT u v).ok (x*y):=by
 unfold UT
 split
 ·rename_i a b c d
  have a1:=hu.1 a rfl
  have a2:=hu.2 b rfl
  have c1:=hv.1 c rfl
  have c2:=hv.2 d rfl
  obtain⟨m1,m2⟩:=uG (x:=x) c1 c2
  obtain⟨p1,p2⟩:=uG (x:=c) a1 a2
  obtain⟨q1,q2⟩:=uG (x:=d) a1 a2
  rw[Int.mul_comm c x,Int.mul_comm c a,Int.mul_comm c b]at p1 p2
  rw[Int.mul_comm d x,Int.mul_comm d a,Int.mul_comm d b]at q1 q2
  refine⟨fun l hl => ?_,fun l hl => ?_⟩
  ·cases hl
   revert m1 p1 q1
   unfold OB
   intro m1 p1 q1
   split at m1<;>split at p1<;>split at q1<;>(repeat' split)<;>omega
  ·cases hl
   revert m2 p2 q2
   unfold OC
   intro m2 p2 q2
   split at m2<;>split at p2<;>split at q2<;>(repeat' split)<;>omega
 ·exact Iv.none_ok _
def QR:Iv->Iv->Iv
 | ⟨a,b⟩,⟨c,d⟩=>⟨match a,c with | some a,some c=>some (OB a c) | _,_=>none,match b,d with | some b,some d=>some (OC b d) | _,_=>none⟩
theorem XK {u v:Iv} {x:Int} (h:u.ok x\/v.ok x):(QR u v).ok x:=by
 obtain⟨a,b⟩:=u
 obtain⟨c,d⟩:=v
 unfold QR
 refine⟨fun l hl => ?_,fun l hl => ?_⟩
 ·simp only at hl
  split at hl
  ·cases hl
   unfold OB
   rcases h with h | h
   ·have:=h.1 _ rfl;split<;>omega
   ·have:=h.1 _ rfl;split<;>omega
  ·cases hl
 ·simp only at hl
  split at hl
  ·cases hl
   unfold OC
   rcases h with h | h
   ·have:=h.2 _ rfl;split<;>omega
   ·have:=h.2 _ rfl;split<;>omega
  ·cases hl
def XJ:IntKind->Iv->Iv
 | .i64,⟨some a,some b⟩=>if decide (-9223372036854775808<=a)&&decide (b<9223372036854775808)then⟨some a,some b⟩else⟨none,none⟩
 | .u64,⟨some a,some b⟩=>if decide (0<=a)&&decide (b<18446744073709551616)then⟨some a,some b⟩else⟨some 0,some 18446744073709551615⟩
 | .u64,_=>⟨some 0,some 18446744073709551615⟩
 | _,_=>⟨none,none⟩
theorem u64_in (x:Int) (h0:0<=x) (h1:x<18446744073709551616):IntKind.u64.wrap x=x:=by
 have e:IntKind.u64.wrap x=x % 18446744073709551616:=by simp[IntKind.wrap,IntKind.bits,IntKind.signed]
 rw[e];omega
theorem Ho (x:Int):0<=IntKind.u64.wrap x/\IntKind.u64.wrap x<=18446744073709551615:=by
 have e:IntKind.u64.wrap x=x % 18446744073709551616:=by simp[IntKind.wrap,IntKind.bits,IntKind.signed]
 rw[e];omega
theorem DL {k:IntKind} {v:Iv} {x:Int} (h:v.ok x):(XJ k v).ok (k.wrap x):=by
 unfold XJ
 split
 ·split
  ·rename_i hc
   simp only[Bool.and_eq_true,decide_eq_true_eq]at hc
   have h1:=h.1 _ rfl
   have h2:=h.2 _ rfl
   rw[IntWalk.i64_in x ⟨by omega,by omega⟩]
   exact h
  ·exact Iv.none_ok _
 ·split
  ·rename_i hc
   simp only[Bool.and_eq_true,decide_eq_true_eq]at hc
   have h1:=h.1 _ rfl
   have h2:=h.2 _ rfl
   rw[u64_in x (by omega) (by omega)]
   exact h
  ·have:=Ho x
   exact⟨fun l hl=>by cases hl;omega,fun l hl=>by cases hl;omega⟩
 ·have:=Ho x
  exact⟨fun l hl=>by cases hl;omega,fun l hl=>by cases hl;omega⟩
 ·exact Iv.none_ok _
def QQ:IntKind->Iv->Iv
 | .i64,⟨some a,some b⟩=>if decide (0<=a)&&decide (b<9223372036854775808)then⟨some 0,some b⟩else⟨none,none⟩
 | .u64,⟨some a,some b⟩=>if decide (0<=a)&&decide (b<9223372036854775808)then⟨some 0,some b⟩else⟨none,none⟩
 | _,_=>⟨none,none⟩
theorem wu (k:IntKind) (hk:k = .i64\/k = .u64) (x m:Int) (h0:0<=m) (h1:m<9223372036854775808):0<=bits .and k x m/\bits .and k x m<=m:=by
 have key:∀a:BitVec 64,((a &&& BitVec.ofInt 64 m).toNat:Int)<=m:=fun a=>by
  have e:(BitVec.ofInt 64 m).toNat=m.toNat:=by
   rw[BitVec.toNat_ofInt]
   omega
  have:=Nat.and_le_right (n:=a.toNat) (m:=m.toNat)
  rw[BitVec.toNat_and,e]
  omega
 rcases hk with rfl | rfl
 ·have e:bits .and .i64 x m=IntKind.i64.wrap ((BitVec.ofInt 64 x &&& BitVec.ofInt 64 m).toNat:Int):=rfl
  have:=key (BitVec.ofInt 64 x)
  rw[e,IntWalk.i64_in _ ⟨by omega,by omega⟩]
  exact⟨by omega,this⟩
 ·have e:bits .and .u64 x m=IntKind.u64.wrap ((BitVec.ofInt 64 x &&& BitVec.ofInt 64 m).toNat:Int):=rfl
  have:=key (BitVec.ofInt 64 x)
  rw[e,u64_in _ (by omega) (by omega)]
  exact⟨by omega,this⟩
theorem XH {k:IntKind} {v:Iv} {x m:Int} (h:v.ok m):(QQ k v).ok (bits .and k x m):=by
 unfold QQ
 split
 ·split
  ·rename_i hc
   simp only[Bool.and_eq_true,decide_eq_true_eq]at hc
   have h1:=h.1 _ rfl
   have h2:=h.2 _ rfl
   have:=wu .i64 (.inl rfl) x m (by omega) (by omega)
   exact⟨fun l hl=>by cases hl;omega,fun l hl=>by cases hl;omega⟩
  ·exact Iv.none_ok _
 ·split
  ·rename_i hc
   simp only[Bool.and_eq_true,decide_eq_true_eq]at hc
   have h1:=h.1 _ rfl
   have h2:=h.2 _ rfl
   have:=wu .u64 (.inr rfl) x m (by omega) (by omega)
   exact⟨fun l hl=>by cases hl;omega,fun l hl=>by cases hl;omega⟩
  ·exact Iv.none_ok _
 ·exact Iv.none_ok _
def bf3:IOp->IntKind->Iv->Iv->Iv
 | .padd,_,a,b=>Oz a b
 | .psub,_,a,b=>Oz a (ah1 b)
 | .pmul,_,a,b=>UT a b
 | .add,k,a,b=>XJ k (Oz a b)
 | .sub,k,a,b=>XJ k (Oz a (ah1 b))
 | .mul,k,a,b=>XJ k (UT a b)
 | .conv,k,a,_=>XJ k a
 | .and,k,_,b=>QQ k b
 | .max,_,a,b=>⟨aC4 a.lo b.lo,none⟩
 | _,_,_,_=>⟨none,none⟩
theorem aG7 {o:IOp} {k:IntKind} {u v:Iv} {x y:Int} (hu:u.ok x) (hv:v.ok y):(bf3 o k u v).ok (o.den k x y):=by
 unfold bf3
 split<;>simp only[IOp.den]
 ·exact zx hu hv
 ·rw[Int.sub_eq_add_neg];exact zx hu (Ov hv)
 ·exact Ox hu hv
 ·exact DL (zx hu hv)
 ·rw[Int.sub_eq_add_neg];exact DL (zx hu (Ov hv))
 ·exact DL (Ox hu hv)
 ·exact DL hu
 ·exact XH hv
 ·refine⟨fun l hl => ?_,fun _ h=>by cases h⟩
  cases hu':u.lo with
  | none =>
   cases hv':v.lo with
   | none=>rw[hu',hv']at hl;cases hl
   | some b=>rw[hu',hv']at hl;cases hl;have:=hv.1 _ hv';omega
  | some a =>
   have:=hu.1 _ hu'
   cases hv':v.lo with
   | none=>rw[hu',hv']at hl;cases hl;omega
   | some b =>
    have:=hv.1 _ hv'
    rw[hu',hv']at hl
    simp only[aC4,Option.some.injEq]at hl
    split at hl<;>omega
 ·exact Iv.none_ok _
def Fe (Φ:Facts):IE->Iv
 | .op o k a b=>(Oy (.op o k a b) Φ).meet (bf3 o k (Fe Φ a) (Fe Φ b))
 | .ite c a b=>(Oy (.ite c a b) Φ).meet (QR (Fe Φ a) (Fe Φ b))
 | e=>Oy e Φ
theorem iE {J:Rho} {Φ:Facts} (hk:Facts.ok J Φ):∀e:IE,(Fe Φ e).ok (e.den J)
 | .op o k a b=>by
  simp only[Fe]
  refine Iv.meet_ok (kz hk) ?_
  simp only[IE.den]
  exact aG7 (iE hk a) (iE hk b)
 | .ite c a b=>by
  simp only[Fe]
  refine Iv.meet_ok (kz hk) (XK ?_)
  simp only[IE.den]
  split
  ·exact .inl (iE hk a)
  ·exact .inr (iE hk b)
 | .lit _=>kz hk
 | .var _=>kz hk
 | .cl _ _ _=>kz hk
 | .len _=>kz hk
 | .slen _=>kz hk
 | .byt _ _=>kz hk
 | .uf _ _ _=>kz hk
def LJ (a b:IE):BE×Bool->Option Int
 | (.lt x y,true)=>if(base x).1.beq a&&(base y).1.beq b then some ((base y).2-(base x).2-1)else none
 | (.lt x y,false)=>if(base y).1.beq a&&(base x).1.beq b then some ((base x).2-(base y).2)else none
 | _=>none
theorem X4 {J:Rho} {a b:IE} {p:BE×Bool} {k:Int} (h:p.1.den J=p.2) (hd:LJ a b p=some k):a.den J-b.den J<=k:=by
 unfold LJ at hd
 split at hd
 ·rename_i x y
  split at hd
  ·rename_i hc
   simp only[Bool.and_eq_true]at hc
   cases hd
   simp only[BE.den]at h
   have h:=of_decide_eq_true h
   rw[je J x,je J y,IE.beq_eq _ _ hc.1,IE.beq_eq _ _ hc.2]at h
   omega
  ·cases hd
 ·rename_i x y
  split at hd
  ·rename_i hc
   simp only[Bool.and_eq_true]at hc
   cases hd
   simp only[BE.den]at h
   have h:=of_decide_eq_false h
   rw[je J x,je J y,IE.beq_eq _ _ hc.1,IE.beq_eq _ _ hc.2]at h
   omega
  ·cases hd
 ·cases hd
def Gf (a b:IE):Facts->Option Int
 | []=>none
 | p::Φ=>Wj (LJ a b p) (Gf a b Φ)
theorem uV {J:Rho} {a b:IE}:∀{Φ:Facts} {k:Int},Facts.ok J Φ->Gf a b Φ=some k->a.den J-b.den J<=k
 | [],_,_,h=>by cases h
 | p::Φ,k,hk,h=>by
  have h1:=Facts.ok_tail hk
  simp only[Gf]at h
  cases e1:LJ a b p with
  | none =>
   rw[e1]at h
   simp only[Wj]at h
   exact uV h1.2 h
  | some x =>
   have hx:=X4 h1.1 e1
   rw[e1]at h
   cases e2:Gf a b Φ with
   | none=>rw[e2]at h;simp only[Wj,Option.some.injEq]at h;omega
   | some y =>
    have hy:=uV h1.2 e2
    rw[e2]at h
    simp only[Wj,Option.some.injEq]at h
    split at h<;>omega
def X3 (Φ:Facts) (a b:IE):Option Bool :=
 match Gf (base a).1 (base b).1 Φ with
 | some k=>if k<(base b).2-(base a).2 then some true else(match Gf (base b).1 (base a).1 Φ with
  | some k=>if k<=(base a).2-(base b).2 then some false else none
  | none=>none)
 | none=>match Gf (base b).1 (base a).1 Φ with
  | some k=>if k<=(base a).2-(base b).2 then some false else none
  | none=>none
theorem wH {J:Rho} {Φ:Facts} (hk:Facts.ok J Φ) {a b:IE} {r:Bool} (h:X3 Φ a b=some r):(BE.lt a b).den J=r:=by
 simp only[BE.den]
 rw[je J a,je J b]
 unfold X3 at h
 split at h
 ·rename_i k e1
  have:=uV hk e1
  split at h
  ·cases h;exact decide_eq_true (by omega)
  ·split at h
   ·rename_i k2 e2
    have:=uV hk e2
    split at h
    ·cases h;exact decide_eq_false (by omega)
    ·cases h
   ·cases h
 ·split at h
  ·rename_i k2 e2
   have:=uV hk e2
   split at h
   ·cases h;exact decide_eq_false (by omega)
   ·cases h
  ·cases h
def zA (v:Iv):Bool:=match v.lo,v.hi with
 | some l,some h=>decide (-9223372036854775808<=l)&&decide (h<9223372036854775808)
 | _,_=>false
theorem o5 {v:Iv} {x:Int} (h:v.ok x) (hi:zA v=true):IntKind.i64.wrap x=x:=by
 unfold zA at hi
 split at hi
 ·rename_i l u hl hu
  simp only[Bool.and_eq_true,decide_eq_true_eq]at hi
  have:=h.1 l hl
  have:=h.2 u hu
  exact IntWalk.i64_in x ⟨by omega,by omega⟩
 ·cases hi
def Ig:IE->IE->IE
 | .op .padd k a (.lit c),.lit d => .op .padd k a (.lit (c+d))
 | a,b => .op .padd .i64 a b
theorem vX (J:Rho) (a b:IE):(Ig a b).den J=a.den J+b.den J:=by
 unfold Ig
 split<;>simp only[IE.den,IOp.den]<;>omega
def nU (Φ:Facts):IE->IE
 | .op .add .i64 a b=>if zA (Fe Φ (Ig (nU Φ a) (nU Φ b)))=true then Ig (nU Φ a) (nU Φ b)else .op .add .i64 a b
 | .op .sub .i64 a (.lit c)=>if zA (Fe Φ (Ig (nU Φ a) (.lit (-c))))=true then Ig (nU Φ a) (.lit (-c))else .op .sub .i64 a (.lit c)
 | .op .mul .i64 a b=>if zA (Fe Φ (zi (nU Φ a) (nU Φ b)))=true then zi (nU Φ a) (nU Φ b)else .op .mul .i64 a b
 | .op .conv .i64 a b=>if zA (Fe Φ (nU Φ a))=true then nU Φ a else .op .conv .i64 a b
 | e=>e
theorem uD {J:Rho} {Φ:Facts} (hk:Facts.ok J Φ) (e:IE):(nU Φ e).den J=e.den J:=by
 fun_induction nU Φ e with
 | case1 a b h ih1 ih2 =>
  have h1:=o5 (iE hk _) h
  rw[vX,ih1,ih2]at h1
  rw[vX,ih1,ih2]
  exact h1.symm
 | case2=>rfl
 | case3 a c h ih =>
  have h1:=o5 (iE hk _) h
  rw[vX,ih]at h1
  rw[vX,ih]
  simp only[IE.den,IOp.den]at h1 ⊢
  rw[Int.sub_eq_add_neg];exact h1.symm
 | case4=>rfl
 | case5 a b h ih1 ih2 =>
  have h1:=o5 (iE hk _) h
  rw[oG,ih1,ih2]at h1
  rw[oG,ih1,ih2]
  exact h1.symm
 | case6=>rfl
 | case7 a b h ih =>
  have h1:=o5 (iE hk _) h
  rw[ih]at h1
  rw[ih]
  exact h1.symm
 | case8=>rfl
 | case9=>rfl
def aH2:IE->Bool
 | .op .add _ _ _=>true
 | .op .sub _ _ _=>true
 | .op .mul _ _ _=>true
 | .op .conv _ _ _=>true
 | _=>false
def ab9 (Φ:Facts) (a b:IE):Option Bool :=
 if(aH2 a||aH2 b)=true then
  let a:=nU Φ a
  let b:=nU Φ b
  if(base a).1.beq (base b).1=true then some (decide ((base a).2<(base b).2))
  else match XI (Fe Φ a) (Fe Φ b)with
   | some v=>some v
   | none=>X3 Φ a b
 else none
theorem ab8 {J:Rho} {Φ:Facts} (hk:Facts.ok J Φ) {a b:IE} {r:Bool} (h:ab9 Φ a b=some r):(BE.lt a b).den J=r:=by
 unfold ab9 at h
 split at h
 ·simp only at h
  rw[BE.den,<-uD hk a,<-uD hk b]
  split at h
  ·rename_i hb
   cases h
   rw[je J (nU Φ a),je J (nU Φ b),IE.beq_eq _ _ hb]
   exact decide_eq_decide.2 (by omega)
  ·split at h
   ·rename_i h1;cases h;exact wE (iE hk _) (iE hk _) h1
   ·exact wH hk h
 ·cases h
def ac1 (Φ:Facts) (a b:IE):Option Bool :=
 if(aH2 a||aH2 b)=true then
  let a:=nU Φ a
  let b:=nU Φ b
  if(base a).1.beq (base b).1=true then some (decide ((base a).2=(base b).2))
  else match aG8 (Fe Φ a) (Fe Φ b)with
   | some v=>some v
   | none=>match X3 Φ a b,X3 Φ b a with
    | some true,_=>some false
    | _,some true=>some false
    | some false,some false=>some true
    | _,_=>none
 else none
theorem ac0 {J:Rho} {Φ:Facts} (hk:Facts.ok J Φ) {a b:IE} {r:Bool} (h:ac1 Φ a b=some r):(BE.eq a b).den J=r:=by
 unfold ac1 at h
 split at h
 ·simp only at h
  rw[BE.den,<-uD hk a,<-uD hk b]
  split at h
  ·rename_i hb
   cases h
   rw[je J (nU Φ a),je J (nU Φ b),IE.beq_eq _ _ hb,Bool.eq_iff_iff,beq_iff_eq,decide_eq_true_eq]
   omega
  ·split at h
   ·rename_i h1;cases h;exact UU (iE hk _) (iE hk _) h1
   ·split at h
    ·rename_i h1
     have h1:=of_decide_eq_true (wH (J:=J) hk h1)
     cases h;exact beq_eq_false_iff_ne.2 (by omega)
    ·rename_i h1 _
     have h1:=of_decide_eq_true (wH (J:=J) hk h1)
     cases h;exact beq_eq_false_iff_ne.2 (by omega)
    ·rename_i h1 h2
     have h1:=of_decide_eq_false (wH (J:=J) hk h1)
     have h2:=of_decide_eq_false (wH (J:=J) hk h2)
     cases h;exact beq_iff_eq.2 (by omega)
    ·cases h
 ·cases h
def xh (c:BE):Facts->Option Bool
 | []=>none
 | (d,v)::r=>if d.beq c=true then some v else xh c r
theorem jH {J:Rho} {c:BE} {v:Bool}:∀{Φ:Facts},Facts.ok J Φ->xh c Φ=some v->c.den J=v
 | [],_,h=>by cases h
 | (d,u)::r,hk,h=>by
  simp only[xh]at h
  split at h
  ·rename_i hb;cases h;rw[<-BE.beq_eq _ _ hb];exact(Facts.ok_tail hk).1
  ·exact jH (Facts.ok_tail hk).2 h
def Pn (c:BE):Option Bool->BE
 | some v => .lit v
 | none=>c
theorem oL {J:Rho} {c:BE} {o:Option Bool} (h:∀v,o=some v->c.den J=v):(Pn c o).den J=c.den J:=by
 cases o with
 | none=>rfl
 | some v=>simp only[Pn,BE.den];exact(h v rfl).symm
def oor:Option Bool->Option Bool->Option Bool
 | some v,_=>some v
 | none,b=>b
def red (Φ:Facts):BE->BE
 | .not a=>mkNot (red Φ a)
 | .and a b=>match xh (.and a b) Φ with
  | some v => .lit v
  | none=>mkAnd (red Φ a) (red Φ b)
 | .or a b=>match xh (.or a b) Φ with
  | some v => .lit v
  | none=>AU (red Φ a) (red Φ b)
 | .ite c a b=>match xh (.ite c a b) Φ with
  | some v => .lit v
  | none=>jg (red Φ c) (red Φ a) (red Φ b)
 | .lit b => .lit b
 | .lt a b=>Pn (.lt a b) (oor (XI (Fe Φ a) (Fe Φ b)) (oor (xh (.lt a b) Φ) (oor (X3 Φ a b) (ab9 Φ a b))))
 | .eq a b=>Pn (.eq a b) (oor (aG8 (Fe Φ a) (Fe Φ b)) (oor (xh (.eq a b) Φ) (oor (xh (.eq b a) Φ) (ac1 Φ a b))))
 | c=>Pn c (xh c Φ)
theorem bu {J:Rho} {Φ:Facts} (hk:Facts.ok J Φ):∀c:BE,(red Φ c).den J=c.den J
 | .not a=>by simp only[red,bz,BE.den,bu hk a]
 | .and a b=>by
  simp only[red]
  split
  ·rename_i v hv;rw[jH hk hv];rfl
  ·simp only[df,BE.den,bu hk a,bu hk b]
 | .or a b=>by
  simp only[red]
  split
  ·rename_i v hv;rw[jH hk hv];rfl
  ·simp only[jD,BE.den,bu hk a,bu hk b]
 | .ite c a b=>by
  simp only[red]
  split
  ·rename_i v hv;rw[jH hk hv];rfl
  ·simp only[dU,BE.den,bu hk c,bu hk a,bu hk b]
 | .lit b=>rfl
 | .lt a b=>by
  refine oL fun v hv => ?_
  unfold oor at hv
  split at hv
  ·rename_i h1;cases hv;exact wE (iE hk a) (iE hk b) h1
  ·split at hv
   ·rename_i h1;cases hv;exact jH hk h1
   ·split at hv
    ·rename_i h1;cases hv;exact wH hk h1
    ·exact ab8 hk hv
 | .eq a b=>by
  refine oL fun v hv => ?_
  unfold oor at hv
  split at hv
  ·rename_i h1;cases hv;exact UU (iE hk a) (iE hk b) h1
  ·split at hv
   ·rename_i h1;cases hv;exact jH hk h1
   ·split at hv
    ·rename_i h1
     cases hv
     have h2:=jH hk h1
     simp only[BE.den]at h2 ⊢
     rw[<-h2,Bool.eq_iff_iff,beq_iff_eq,beq_iff_eq]
     exact⟨Eq.symm,Eq.symm⟩
    ·exact ac0 hk hv
 | .var i=>oL fun v hv=>jH hk hv
 | .cl l k j=>oL fun v hv=>jH hk hv
 | .seq a b=>oL fun v hv=>jH hk hv
 | .slt a b=>oL fun v hv=>jH hk hv
def assume:BE->Bool->Facts->Facts
 | .not a,v,Φ=>assume a (!v) Φ
 | .and a b,true,Φ=>assume a true (assume b true Φ)
 | .or a b,false,Φ=>assume a false (assume b false Φ)
 | .lit _,_,Φ=>Φ
 | c,v,Φ=>(c,v)::Φ
theorem dC {J:Rho}:∀(c:BE) (v:Bool) (Φ:Facts),c.den J=v->Facts.ok J Φ->Facts.ok J (assume c v Φ):=by
 intro c v Φ
 fun_induction assume c v Φ with
 | case1 a v Φ ih=>intro h hk;simp only[BE.den]at h;exact ih (by rw[<-h];simp) hk
 | case2 a b Φ ih1 ih2=>intro h hk;simp only[BE.den,Bool.and_eq_true]at h;exact ih2 h.1 (ih1 h.2 hk)
 | case3 a b Φ ih1 ih2=>intro h hk;simp only[BE.den,Bool.or_eq_false_iff]at h;exact ih2 h.1 (ih1 h.2 hk)
 | case4=>intro _ hk;exact hk
 | case5=>intro h hk;exact Facts.ok_cons h hk
inductive T (α:Type) where
 | ret (a:α)
 | br (c:BE) (x y:T α)
 | need (c:BE) (x:T α)
 | fail (why:List String)
noncomputable def T.sel {α:Type} (J:Rho):T α->Option α
 | .ret a=>some a
 | .br c x y=>if c.den J=true then x.sel J else y.sel J
 | .need c x=>if c.den J=true then x.sel J else none
 | .fail _=>none
def T.bind {α β:Type} (Φ:Facts) (f:Facts->α->T β):T α->T β
 | .ret a=>f Φ a
 | .br c x y => .br c (x.bind (assume c true Φ) f) (y.bind (assume c false Φ) f)
 | .need c x => .need c (x.bind (assume c true Φ) f)
 | .fail w => .fail w
theorem T.sel_bind {α β:Type} {J:Rho} {f:Facts->α->T β} {b:β}:∀(t:T α) {Φ:Facts},Facts.ok J Φ->(t.bind Φ f).sel J=some b->∃Φ' a,Facts.ok J Φ'/\t.sel J=some a/\(f Φ' a).sel J=some b
 | .ret a,Φ,hk,h=>⟨Φ,a,hk,rfl,h⟩
 | .br c x y,Φ,hk,h=>by
  simp only[T.bind,T.sel]at h ⊢
  split at h
  ·rename_i hc;rw[if_pos hc];exact T.sel_bind x (dC c true Φ hc hk) h
  ·rename_i hc;rw[if_neg hc];exact T.sel_bind y (dC c false Φ (by simpa using hc) hk) h
 | .need c x,Φ,hk,h=>by
  simp only[T.bind,T.sel]at h ⊢
  split at h
  ·rename_i hc;rw[if_pos hc];exact T.sel_bind x (dC c true Φ hc hk) h
  ·cases h
 | .fail _,_,_,h=>by cases h
def T.map {α β:Type} (f:α->β):T α->T β
 | .ret a => .ret (f a)
 | .br c x y => .br c (x.map f) (y.map f)
 | .need c x => .need c (x.map f)
 | .fail w => .fail w
theorem T.sel_map {α β:Type} {J:Rho} {f:α->β} {b:β}:∀(t:T α),(t.map f).sel J=some b->∃a,t.sel J=some a/\b=f a
 | .ret a,h=>by cases h;exact⟨a,rfl,rfl⟩
 | .br c x y,h=>by
  simp only[T.map,T.sel]at h ⊢
  split at h
  ·rename_i hc;rw[if_pos hc];exact T.sel_map x h
  ·rename_i hc;rw[if_neg hc];exact T.sel_map y h
 | .need c x,h=>by
  simp only[T.map,T.sel]at h ⊢
  split at h
  ·rename_i hc;rw[if_pos hc];exact T.sel_map x h
  ·cases h
 | .fail _,h=>by cases h
def lab {α:Type} (w:String):T α->T α
 | .fail [] => .fail [w]
 | t=>t
theorem JR {α:Type} {J:Rho} {w:String} {t:T α}:(lab w t).sel J=t.sel J:=by
 unfold lab;split<;>rfl
def T.why {α:Type}:T α->List String
 | .ret _=>[]
 | .br _ x y=>match x.why with
  | []=>y.why
  | w=>w
 | .need _ x=>x.why
 | .fail w=>w
def part {α:Type} (Φ:Facts) (c:BE) (x y:Facts->T α):T α :=
 match red Φ c with
 | .lit true=>x Φ
 | .lit false=>y Φ
 | d => .br d (x (assume d true Φ)) (y (assume d false Φ))
theorem MZ {α:Type} {J:Rho} {Φ:Facts} {c:BE} {x y:Facts->T α} {a:α} (hk:Facts.ok J Φ) (h:(part Φ c x y).sel J=some a):∃Φ',Facts.ok J Φ'/\((c.den J=true/\(x Φ').sel J=some a)\/(c.den J=false/\(y Φ').sel J=some a)):=by
 have hr:=bu hk c
 unfold part at h
 split at h
 ·rename_i hd;rw[hd]at hr;exact⟨Φ,hk,.inl ⟨hr.symm,h⟩⟩
 ·rename_i hd;rw[hd]at hr;exact⟨Φ,hk,.inr ⟨hr.symm,h⟩⟩
 ·simp only[T.sel]at h
  split at h
  ·rename_i hc;exact⟨_,dC _ true Φ hc hk,.inl ⟨by rw[<-hr];exact hc,h⟩⟩
  ·rename_i hc;exact⟨_,dC _ false Φ (by simpa using hc) hk,.inr ⟨by rw[<-hr];simpa using hc,h⟩⟩
def want {α:Type} (Φ:Facts) (c:BE) (x:Facts->T α):T α :=
 match red Φ c with
 | .lit true=>x Φ
 | .lit false=>(.fail [])
 | d => .need d (x (assume d true Φ))
theorem aS {α:Type} {J:Rho} {Φ:Facts} {c:BE} {x:Facts->T α} {a:α} (hk:Facts.ok J Φ) (h:(want Φ c x).sel J=some a):∃Φ',Facts.ok J Φ'/\c.den J=true/\(x Φ').sel J=some a:=by
 have hr:=bu hk c
 unfold want at h
 split at h
 ·rename_i hd;rw[hd]at hr;exact⟨Φ,hk,hr.symm,h⟩
 ·cases h
 ·simp only[T.sel]at h
  split at h
  ·rename_i hc;exact⟨_,dC _ true Φ hc hk,by rw[<-hr];exact hc,h⟩
  ·cases h
end Go.Proofs.Xw
namespace Go.Proofs.Xw
open Go Go.Proofs.Aw
def fC:IE->IE->IE
 | .lit m,.lit n => .lit (m+n)
 | .op .psub k a (.lit m),.lit n=>if n==m then a else .op .padd .i64 (.op .psub k a (.lit m)) (.lit n)
 | .lit n,.op .psub k a (.lit m)=>if n==m then a else .op .padd .i64 (.lit n) (.op .psub k a (.lit m))
 | .op .padd j b (.lit n),.op .psub k a (.lit m)=>if n==m then .op .padd .i64 b a else .op .padd .i64 (.op .padd j b (.lit n)) (.op .psub k a (.lit m))
 | a,.lit n=>if n==0 then a else .op .padd .i64 a (.lit n)
 | .lit n,b=>if n==0 then b else .op .padd .i64 (.lit n) b
 | a,b => .op .padd .i64 a b
theorem bK (J:Rho) (a b:IE):(fC a b).den J=a.den J+b.den J:=by
 unfold fC
 split
 ·simp[IE.den]
 ·split
  ·rename_i h;simp only[beq_iff_eq]at h;subst h;simp only[IE.den,IOp.den];omega
  ·simp[IE.den,IOp.den]
 ·split
  ·rename_i h;simp only[beq_iff_eq]at h;subst h;simp only[IE.den,IOp.den];omega
  ·simp[IE.den,IOp.den]
 ·split
  ·rename_i h;simp only[beq_iff_eq]at h;subst h;simp only[IE.den,IOp.den];omega
  ·simp[IE.den,IOp.den]
 ·split
  ·rename_i h;simp only[beq_iff_eq]at h;subst h;simp[IE.den]
  ·simp[IE.den,IOp.den]
 ·split
  ·rename_i h;simp only[beq_iff_eq]at h;subst h;simp[IE.den]
  ·simp[IE.den,IOp.den]
 ·simp[IE.den,IOp.den]
def oV:IE->IE->IE
 | .lit m,.lit n => .lit (m-n)
 | .op .padd k a b,c=>if a.beq c=true then b else if b.beq c=true then a else .op .psub .i64 (.op .padd k a b) c
 | a,.lit n=>if n==0 then a else .op .psub .i64 a (.lit n)
 | a,b=>if a.beq b=true then .lit 0 else .op .psub .i64 a b
theorem gX (J:Rho) (a b:IE):(oV a b).den J=a.den J-b.den J:=by
 unfold oV
 split
 ·simp[IE.den]
 ·split
  ·rename_i h;rw[<-IE.beq_eq _ _ h];simp only[IE.den,IOp.den];omega
  ·split
   ·rename_i h;rw[<-IE.beq_eq _ _ h];simp only[IE.den,IOp.den];omega
   ·simp[IE.den,IOp.den]
 ·split
  ·rename_i h;simp only[beq_iff_eq]at h;subst h;simp[IE.den]
  ·simp[IE.den,IOp.den]
 ·split
  ·rename_i h;rw[IE.beq_eq _ _ h];simp[IE.den]
  ·simp[IE.den,IOp.den]
inductive Kd where
 | i (k:IntKind) | b | s
inductive Sc where
 | i (k:IntKind) (e:IE) | b (e:BE) | s (e:TE) | f (n:IE) (z:BE) | c (n:IE) (z:BE) (m:IE) (y:BE)
instance:Inhabited Sc:=⟨.b default⟩
noncomputable def Sc.den (J:Rho):Sc->Value
 | .i k e => .int k (e.den J)
 | .b e => .bool (e.den J)
 | .s e => .string (e.den J)
 | .f n z => .float .f64 (fv (n.den J) (z.den J))
 | .c n z m y => .complex .f64 (fv (n.den J) (z.den J)) (fv (m.den J) (y.den J))
def Sc.beq:Sc->Sc->Bool
 | .i k e,.i k' e'=>A7 k k'&&e.beq e'
 | .b e,.b e'=>e.beq e'
 | .s e,.s e'=>e.beq e'
 | .f n z,.f n' z'=>n.beq n'&&z.beq z'
 | .c n z m y,.c n' z' m' y'=>n.beq n'&&(z.beq z'&&(m.beq m'&&y.beq y'))
 | _,_=>false
theorem Sc.beq_eq {a b:Sc} (h:a.beq b=true):a=b:=by
 cases a<;>cases b<;>simp[Sc.beq]at h ⊢
 ·exact⟨lC h.1,IE.beq_eq _ _ h.2⟩
 ·exact BE.beq_eq _ _ h
 ·exact TE.beq_eq _ _ h
 ·exact⟨IE.beq_eq _ _ h.1,BE.beq_eq _ _ h.2⟩
 ·exact⟨IE.beq_eq _ _ h.1,BE.beq_eq _ _ h.2.1,IE.beq_eq _ _ h.2.2.1,BE.beq_eq _ _ h.2.2.2⟩
def DJ (c:BE):Sc->Sc->Option Sc
 | .i k a,.i k' b=>if A7 k k'=true then some (.i k (lu c a b))else none
 | .b a,.b b=>some (.b (jg c a b))
 | .s a,.s b=>some (.s (KE c a b))
 | .f n z,.f n' z'=>some (.f (lu c n n') (jg c z z'))
 | .c n z m y,.c n' z' m' y'=>some (.c (lu c n n') (jg c z z') (lu c m m') (jg c y y'))
 | _,_=>none
theorem BX {J:Rho} {c:BE} {a b s:Sc} (h:DJ c a b=some s):s.den J=if c.den J=true then a.den J else b.den J:=by
 cases a<;>cases b<;>simp only[DJ,reduceCtorEq,Option.some.injEq]at h
 ·split at h
  ·rename_i hk
   cases h
   rw[<-lC hk]
   simp only[Sc.den,jF]
   split<;>rfl
  ·cases h
 ·subst h;simp only[Sc.den,dU];split<;>rfl
 ·subst h;simp only[Sc.den,EQ];split<;>rfl
 ·subst h;simp only[Sc.den,jF,dU];split<;>rfl
 ·subst h;simp only[Sc.den,jF,dU];split<;>rfl
noncomputable def mQ (J:Rho) (r:List Sc):List AV:=r.map fun s => .sc (s.den J)
def ja (c:BE):List Sc->List Sc->Option (List Sc)
 | [],[]=>some []
 | a::az,b::bs=>match DJ c a b,ja c az bs with
  | some s,some r=>some (s::r)
  | _,_=>none
 | _,_=>none
theorem iQ {J:Rho} {c:BE}:∀{a b s:List Sc},ja c a b=some s->mQ J s=if c.den J=true then mQ J a else mQ J b
 | [],[],s,h=>by simp only[ja,Option.some.injEq]at h;subst h;simp
 | a::az,b::bs,s,h=>by
  simp only[ja]at h
  split at h
  ·rename_i x r h1 h2
   cases h
   have e1:=BX (J:=J) h1
   have e2:=iQ (J:=J) h2
   simp only[mQ,List.map_cons]at e2 ⊢
   rw[e1,e2]
   split<;>rfl
  ·cases h
 | [],_::_,_,h=>by simp[ja]at h
 | _::_,[],_,h=>by simp[ja]at h
inductive RL where
 | var (l:Nat) (ks:List Kd)
 | one (r:List Sc)
 | app (n:IE) (a b:RL)
 | drop (n:IE) (a:RL)
 | upd (i:IE) (r:List Sc) (a:RL)
 | ite (c:BE) (a b:RL)
def aW (J:Rho) (l:Nat):Nat->List Kd->Nat->List AV
 | _,[],_=>[]
 | k,.i K::ks,j => .sc (.int K (J.ci l k j))::aW J l (k+1) ks j
 | k,.b::ks,j => .sc (.bool (J.cb l k j))::aW J l (k+1) ks j
 | k,.s::ks,j => .sc (.string (J.cs l k j))::aW J l (k+1) ks j
noncomputable def RL.row (J:Rho):RL->Int->List AV
 | .var l ks,j=>aW J l 0 ks j.toNat
 | .one r,_=>mQ J r
 | .app n a b,j=>if j<n.den J then a.row J j else b.row J (j-n.den J)
 | .drop n a,j=>a.row J (j+n.den J)
 | .upd i r a,j=>if j=i.den J then mQ J r else a.row J j
 | .ite c a b,j=>if c.den J=true then a.row J j else b.row J j
def sS (l:Nat) (j:IE):Nat->List Kd->List Sc
 | _,[]=>[]
 | k,.i K::ks => .i K (.cl l k j)::sS l j (k+1) ks
 | k,.b::ks => .b (.cl l k j)::sS l j (k+1) ks
 | k,.s::ks => .s (.cl l k j)::sS l j (k+1) ks
theorem pI (J:Rho) (l:Nat) (j:IE):∀(k:Nat) (ks:List Kd),mQ J (sS l j k ks)=aW J l k ks (j.den J).toNat
 | _,[]=>rfl
 | k,.i K::ks=>by simp only[sS,aW,mQ,List.map_cons,Sc.den,IE.den];exact congrArg _ (pI J l j (k+1) ks)
 | k,.b::ks=>by simp only[sS,aW,mQ,List.map_cons,Sc.den,BE.den];exact congrArg _ (pI J l j (k+1) ks)
 | k,.s::ks=>by simp only[sS,aW,mQ,List.map_cons,Sc.den,TE.den];exact congrArg _ (pI J l j (k+1) ks)
def RL.get:RL->IE->Option (List Sc)
 | .var l ks,j=>some (sS l j 0 ks)
 | .one r,_=>some r
 | .app n a b,j=>match eU j n with
  | .lit true=>a.get j
  | .lit false=>b.get (oV j n)
  | c=>match a.get j,b.get (oV j n)with
   | some x,some y=>ja c x y
   | _,_=>none
 | .drop n a,j=>a.get (fC j n)
 | .upd i r a,j=>match mkEq j i with
  | .lit true=>some r
  | .lit false=>a.get j
  | c=>match a.get j with
   | some y=>ja c r y
   | none=>none
 | .ite c a b,j=>match a.get j,b.get j with
  | some x,some y=>ja c x y
  | _,_=>none
theorem RL.get_den {J:Rho}:∀{l:RL} {j:IE} {r:List Sc},l.get j=some r->mQ J r=l.row J (j.den J)
 | .var l ks,j,r,h=>by
  simp only[RL.get,Option.some.injEq]at h
  subst h
  exact pI J l j 0 ks
 | .one s,j,r,h=>by
  simp only[RL.get,Option.some.injEq]at h
  subst h;rfl
 | .app n a b,j,r,h=>by
  simp only[RL.get]at h
  have hc:=dY J j n
  simp only[RL.row]
  split at h
  ·rename_i hd
   rw[hd]at hc
   have:=of_decide_eq_true (hc.symm)
   rw[if_pos this]
   exact RL.get_den h
  ·rename_i hd
   rw[hd]at hc
   have:=of_decide_eq_false (hc.symm)
   rw[if_neg this,<-gX]
   exact RL.get_den h
  ·split at h
   ·rename_i x y h1 h2
    rw[iQ h,RL.get_den h1,RL.get_den h2,gX,hc]
    by_cases hh:IE.den J j<IE.den J n
    ·rw[if_pos (decide_eq_true hh),if_pos hh]
    ·rw[if_neg (by simpa using hh),if_neg hh]
   ·cases h
 | .drop n a,j,r,h=>by
  simp only[RL.get]at h
  simp only[RL.row]
  rw[<-bK]
  exact RL.get_den h
 | .upd i q a,j,r,h=>by
  simp only[RL.get]at h
  have hc:=cZ J j i
  simp only[RL.row]
  split at h
  ·rename_i hd
   rw[hd]at hc
   cases h
   rw[if_pos (by simpa [BE.den]using hc.symm)]
  ·rename_i hd
   rw[hd]at hc
   rw[if_neg (by simpa [BE.den]using hc.symm)]
   exact RL.get_den h
  ·split at h
   ·rename_i y h2
    rw[iQ h,RL.get_den h2,hc]
    by_cases hh:IE.den J j=IE.den J i
    ·rw[if_pos (by simpa using hh),if_pos hh]
    ·rw[if_neg (by simpa using hh),if_neg hh]
   ·cases h
 | .ite c a b,j,r,h=>by
  simp only[RL.get]at h
  simp only[RL.row]
  split at h
  ·rename_i x y h1 h2
   rw[iQ h,RL.get_den h1,RL.get_den h2]
  ·cases h
def RL.wd (z:Nat):RL->Bool
 | .var _ ks=>Nat.beq ks.length z
 | .one r=>Nat.beq r.length z
 | .app _ a b=>a.wd z&&b.wd z
 | .drop _ a=>a.wd z
 | .upd _ r a=>Nat.beq r.length z&&a.wd z
 | .ite _ a b=>a.wd z&&b.wd z
theorem TQ (J:Rho) (r:List Sc):(mQ J r).length=r.length:=by simp[mQ]
theorem sO (J:Rho) (l j:Nat):∀(ks:List Kd) (k:Nat),(aW J l k ks j).length=ks.length
 | [],_=>rfl
 | .i _::ks,k=>by simp only[aW,List.length_cons,sO J l j ks (k+1)]
 | .b::ks,k=>by simp only[aW,List.length_cons,sO J l j ks (k+1)]
 | .s::ks,k=>by simp only[aW,List.length_cons,sO J l j ks (k+1)]
theorem RL.wd_len {J:Rho} {z:Nat}:∀{l:RL} {j:Int},l.wd z=true->(l.row J j).length=z
 | .var l ks,j,h=>by simp only[RL.row,sO];exact Nat.eq_of_beq_eq_true h
 | .one r,j,h=>by simp only[RL.row,TQ];exact Nat.eq_of_beq_eq_true h
 | .app n a b,j,h=>by
  simp only[RL.wd,Bool.and_eq_true]at h
  simp only[RL.row]
  split
  ·exact RL.wd_len h.1
  ·exact RL.wd_len h.2
 | .drop n a,j,h=>by simp only[RL.row];exact RL.wd_len (l:=a) h
 | .upd i r a,j,h=>by
  simp only[RL.wd,Bool.and_eq_true]at h
  simp only[RL.row]
  split
  ·rw[TQ];exact Nat.eq_of_beq_eq_true h.1
  ·exact RL.wd_len h.2
 | .ite c a b,j,h=>by
  simp only[RL.wd,Bool.and_eq_true]at h
  simp only[RL.row]
  split
  ·exact RL.wd_len h.1
  ·exact RL.wd_len h.2
def IL:Kd->Kd->Bool
 | .i k,.i k'=>A7 k k'
 | .b,.b=>true
 | .s,.s=>true
 | _,_=>false
theorem zu {x y:Kd} (h:IL x y=true):x=y:=by cases x<;>cases y<;>simp[IL]at h ⊢;exact lC h
def wX {α:Type} (f:α->α->Bool):List α->List α->Bool
 | [],[]=>true
 | a::az,b::bs=>f a b&&wX f az bs
 | _,_=>false
theorem jQ {α:Type} {f:α->α->Bool} (hf:∀a b,f a b=true->a=b):∀{az bs:List α},wX f az bs=true->az=bs
 | [],[],_=>rfl
 | a::az,b::bs,h=>by
  simp only[wX,Bool.and_eq_true]at h
  rw[hf _ _ h.1,jQ hf h.2]
 | [],_::_,h=>by simp[wX]at h
 | _::_,[],h=>by simp[wX]at h
def RL.beq:RL->RL->Bool
 | .var l ks,.var l' ks'=>Nat.beq l l'&&wX IL ks ks'
 | .one r,.one r'=>wX Sc.beq r r'
 | .app n a b,.app n' a' b'=>n.beq n'&&(a.beq a'&&b.beq b')
 | .drop n a,.drop n' a'=>n.beq n'&&a.beq a'
 | .upd i r a,.upd i' r' a'=>i.beq i'&&(wX Sc.beq r r'&&a.beq a')
 | .ite c a b,.ite c' a' b'=>c.beq c'&&(a.beq a'&&b.beq b')
 | _,_=>false
theorem RL.beq_eq:∀{a b:RL},a.beq b=true->a=b
 | .var l ks,b,h=>by
  cases b<;>simp[RL.beq]at h ⊢
  exact⟨h.1,jQ (fun _ _=>zu) h.2⟩
 | .one r,b,h=>by
  cases b<;>simp[RL.beq]at h ⊢
  exact jQ (fun _ _=>Sc.beq_eq) h
 | .app n x y,b,h=>by
  cases b<;>simp[RL.beq]at h ⊢
  exact⟨IE.beq_eq _ _ h.1,RL.beq_eq h.2.1,RL.beq_eq h.2.2⟩
 | .drop n x,b,h=>by
  cases b<;>simp[RL.beq]at h ⊢
  exact⟨IE.beq_eq _ _ h.1,RL.beq_eq h.2⟩
 | .upd i r x,b,h=>by
  cases b<;>simp[RL.beq]at h ⊢
  exact⟨IE.beq_eq _ _ h.1,jQ (fun _ _=>Sc.beq_eq) h.2.1,RL.beq_eq h.2.2⟩
 | .ite c x y,b,h=>by
  cases b<;>simp[RL.beq]at h ⊢
  exact⟨BE.beq_eq _ _ h.1,RL.beq_eq h.2.1,RL.beq_eq h.2.2⟩
def Xo (c:BE) (a b:RL):RL:=if a.beq b=true then a else .ite c a b
theorem Oe (J:Rho) (c:BE) (a b:RL) (j:Int):(Xo c a b).row J j=if c.den J=true then a.row J j else b.row J j:=by
 unfold Xo
 split
 ·rename_i h;rw[RL.beq_eq h,ite_self]
 ·rfl
inductive Nk where
 | f (k:Kd)
 | r (z S:Nat) (ks:List Kd)
def ve (J:Rho) (l k:Nat) (j:Nat):Kd->AV
 | .i K => .sc (.int K (J.ci l k j))
 | .b => .sc (.bool (J.cb l k j))
 | .s => .sc (.string (J.cs l k j))
def uu (J:Rho) (S:Nat) (ks:List Kd) (off n:Int):List (List AV):=(List.range n.toNat).map fun(e:Nat)=>aW J S 0 ks ((e:Int)+off).toNat
def dQ (J:Rho) (l:Nat):Nat->List Nk->Nat->List AV
 | _,[],_=>[]
 | k,.f kd::ks,j=>ve J l k j kd::dQ J l (k+1) ks j
 | k,.r z S kk::ks,j => .ro z (uu J S kk (J.ci l k j) (J.ci l (k+1000) j)) false::dQ J l (k+1) ks j
theorem yu (J:Rho) (l j:Nat):∀(ks:List Nk) (k:Nat),(dQ J l k ks j).length=ks.length
 | [],_=>rfl
 | .f _::ks,k=>by simp only[dQ,List.length_cons,yu J l j ks (k+1)]
 | .r _ _ _::ks,k=>by simp only[dQ,List.length_cons,yu J l j ks (k+1)]
def Uy:Nk->Nk->Bool
 | .f x,.f y=>IL x y
 | .r z S ks,.r z' S' ks'=>Nat.beq z z'&&(Nat.beq S S'&&wX IL ks ks')
 | _,_=>false
theorem N8 {x y:Nk} (h:Uy x y=true):x=y:=by
 cases x<;>cases y<;>simp only[Uy,Bool.false_eq_true,Bool.and_eq_true]at h
 ·rw[zu h]
 ·rw[Nat.eq_of_beq_eq_true h.1,Nat.eq_of_beq_eq_true h.2.1,jQ (fun _ _=>zu) h.2.2]
inductive X where
 | top
 | k (v:Value)
 | sc (s:Sc)
 | agg (cs:List X)
 | tup (vs:List X)
 | ptr (n:Nm) (az:List (BE×Nat)) (d:Nat)
 | sl (n:Nm) (z off len:Nat) (own:Bool)
 | ip (cs:List X) (az:List (BE×Nat)) (d:Nat)
 | ro (z:Nat) (es:List (List X)) (full:Bool)
 | rl (z:Nat) (n:IE) (l:RL) (full:Bool)
 | fn (f:Fn) (first cap:List X)
 | gd (c:BE) (x:X)
 | rows (z:Nat) (n:IE) (l:RL)
 | slv (n:Nm) (z:Nat) (off len:IE) (own:Bool)
 | ptrv (n:Nm) (z:Nat) (j:IE) (o:Nat)
 | rn (z:Nat) (n:IE) (l:Nat) (ks:List Nk) (full:Bool)
 | tk (z:Nat) (m:IE) (t:Nat) (es:List (List X))
 | tq (z:Nat) (m:IE) (t:Nat) (es:List (List X)) (full:Bool)
 | cel (t k:Nat) (j:IE)
instance:Inhabited X:=⟨.top⟩
noncomputable def choose (J:Rho):List (BE×Nat)->Nat->Nat
 | [],d=>d
 | (c,o)::r,d=>if c.den J=true then o else choose J r d
noncomputable def aC (J:Rho) (n:IE) (l:RL):List (List AV):=(List.range (n.den J).toNat).map fun(j:Nat)=>l.row J j
noncomputable def jB (J:Rho) (n:IE) (l:Nat) (ks:List Nk):List (List AV):=(List.range (n.den J).toNat).map fun(j:Nat)=>dQ J l 0 ks j
noncomputable def bD (J:Rho) (z:Nat) (m:IE) (t:Nat):List (List AV):=(List.range (m.den J).toNat).map fun(j:Nat)=>(List.range z).map fun k=>(J.ct t k j).1
mutual
noncomputable def X.den (J:Rho):X->AV
 | .top => .top
 | .k v => .sc v
 | .sc s => .sc (s.den J)
 | .agg cs => .agg (X.denL J cs)
 | .tup vs => .tup (X.denL J vs)
 | .ptr n az d => .ptr n (choose J az d)
 | .sl n z off len own => .sl n z off len own
 | .ip cs az d => .ip (X.denL J cs) (choose J az d)
 | .ro z es full => .ro z (X.denE J es) full
 | .rl z n l full => .ro z (aC J n l) full
 | .fn f xs ys => .fn f (X.denL J xs) (X.denL J ys)
 | .gd c x=>if c.den J=true then x.den J else .sc undef
 | .rows _ _ _ => .top
 | .slv n z off len own => .sl n z ((off.den J).toNat*z) (len.den J).toNat own
 | .ptrv n z j o => .ptr n ((j.den J).toNat*z+o)
 | .rn z n l ks full => .ro z (jB J n l ks) full
 | .tk _ _ _ _ => .top
 | .tq z m t es full => .ro z (bD J z m t++X.denE J es) full
 | .cel t o j=>(J.ct t o (j.den J).toNat).1
noncomputable def X.denL (J:Rho):List X->List AV
 | []=>[]
 | x::xs=>x.den J::X.denL J xs
noncomputable def X.denE (J:Rho):List (List X)->List (List AV)
 | []=>[]
 | e::es=>X.denL J e::X.denE J es
end
theorem X.denL_eq (J:Rho):∀l,X.denL J l=l.map (X.den J)
 | []=>rfl
 | x::xs=>by simp only[X.denL,List.map_cons,X.denL_eq J xs]
theorem X.denE_eq (J:Rho):∀l,X.denE J l=l.map (X.denL J)
 | []=>rfl
 | x::xs=>by simp only[X.denE,List.map_cons,X.denE_eq J xs]
theorem X.denL_len (J:Rho) (l:List X):(X.denL J l).length=l.length:=by rw[X.denL_eq];simp
theorem X.denL_append (J:Rho) (l m:List X):X.denL J (l++m)=X.denL J l++X.denL J m:=by simp[X.denL_eq]
theorem X.denL_take (J:Rho) (l:List X) (n:Nat):X.denL J (l.take n)=(X.denL J l).take n:=by simp[X.denL_eq]
theorem X.denL_drop (J:Rho) (l:List X) (n:Nat):X.denL J (l.drop n)=(X.denL J l).drop n:=by simp[X.denL_eq]
theorem X.denL_get (J:Rho) (l:List X) (i:Nat):(X.denL J l)[i]? = (l[i]?).map (X.den J):=by simp[X.denL_eq]
theorem X.denE_get (J:Rho) (l:List (List X)) (i:Nat):(X.denE J l)[i]? = (l[i]?).map (X.denL J):=by simp[X.denE_eq]
def ab4 (r:List Sc):List X:=r.map .sc
theorem EM (J:Rho) (r:List Sc):X.denL J (ab4 r)=mQ J r:=by simp[X.denL_eq,ab4,mQ,X.den]
def bm6 (l:Nat) (e:IE) (k:Nat):Kd->X
 | .i K => .sc (.i K (.cl l k e))
 | .b => .sc (.b (.cl l k e))
 | .s => .sc (.s (.cl l k e))
def sQ (l:Nat) (e:IE):Nat->List Nk->List X
 | _,[]=>[]
 | k,.f kd::ks=>bm6 l e k kd::sQ l e (k+1) ks
 | k,.r z S kk::ks => .rl z (.cl l (k+1000) e) (.drop (.cl l k e) (.var S kk)) false::sQ l e (k+1) ks
theorem uZ (J:Rho) (l:Nat) (e:IE):∀(ks:List Nk) (k:Nat),X.denL J (sQ l e k ks)=dQ J l k ks (e.den J).toNat
 | [],_=>rfl
 | .f kd::ks,k=>by
  simp only[sQ,dQ,X.denL,uZ J l e ks (k+1)]
  congr 1
  cases kd<;>rfl
 | .r z S kk::ks,k=>by
  simp only[sQ,dQ,X.denL,uZ J l e ks (k+1)]
  rfl
def whole (w:Nat):Int:=match(Ieee.double.read w).toInt .zero with
 | some n=>n
 | none=>0
def WT:Value->X
 | .int k i => .sc (.i k (.lit i))
 | .bool b => .sc (.b (.lit b))
 | .string s => .sc (.s (.lit s))
 | .float .f64 w=>if Nat.beq (fv (whole w) false) w=true then .sc (.f (.lit (whole w)) (.lit false))else .k (.float .f64 w)
 | .complex .f64 w u=>if(Nat.beq (fv (whole w) false) w&&Nat.beq (fv (whole u) false) u)=true then .sc (.c (.lit (whole w)) (.lit false) (.lit (whole u)) (.lit false))else .k (.complex .f64 w u)
 | v => .k v
theorem Ur (J:Rho) (v:Value):(WT v).den J = .sc v:=by
 unfold WT
 split
 ·rfl
 ·rfl
 ·rfl
 ·split
  ·rename_i h
   simp only[X.den,Sc.den,IE.den,BE.den,Nat.eq_of_beq_eq_true h]
  ·rfl
 ·split
  ·rename_i h
   rw[Bool.and_eq_true]at h
   simp only[X.den,Sc.den,IE.den,BE.den,Nat.eq_of_beq_eq_true h.1,Nat.eq_of_beq_eq_true h.2]
  ·rfl
 ·rfl
def VI:Value->Value->Bool
 | .pointer none,.pointer none=>true
 | .slice none a b,.slice none a' b'=>Nat.beq a a'&&Nat.beq b b'
 | .nilFunc,.nilFunc=>true
 | .nilIface,.nilIface=>true
 | .tuple ⟨[]⟩,.tuple ⟨[]⟩=>true
 | _,_=>false
theorem JD {a b:Value} (h:VI a b=true):a=b:=by
 unfold VI at h
 split at h
 ·rfl
 ·simp at h;rw[h.1,h.2]
 ·rfl
 ·rfl
 ·rfl
 ·cases h
def eG (a b:Nm):Bool:=Nat.beq a.1 b.1&&Nat.beq a.2 b.2
theorem bT {a b:Nm} (h:eG a b=true):a=b:=by
 simp only[eG,Bool.and_eq_true]at h
 exact Prod.ext (Nat.eq_of_beq_eq_true h.1) (Nat.eq_of_beq_eq_true h.2)
def Jp (a b:BE×Nat):Bool:=a.1.beq b.1&&Nat.beq a.2 b.2
theorem vk (a b:BE×Nat) (h:Jp a b=true):a=b:=by
 simp only[Jp,Bool.and_eq_true]at h
 exact Prod.ext (BE.beq_eq _ _ h.1) (Nat.eq_of_beq_eq_true h.2)
def U6:Fn->Fn->Bool
 | .func a,.func b=>Nat.beq a b
 | _,_=>false
theorem OO {a b:Fn} (h:U6 a b=true):a=b:=by
 unfold U6 at h
 split at h
 ·simp at h;rw[h]
 ·cases h
mutual
def X.beq:X->X->Bool
 | .top,.top=>true
 | .k v,.k w=>VI v w
 | .sc s,.sc s'=>s.beq s'
 | .agg cs,.agg cs'=>X.beqL cs cs'
 | .tup cs,.tup cs'=>X.beqL cs cs'
 | .ptr n az d,.ptr n' az' d'=>eG n n'&&(Nat.beq d d'&&wX Jp az az')
 | .sl n z o l w,.sl n' z' o' l' w'=>eG n n'&&(Nat.beq z z'&&(Nat.beq o o'&&(Nat.beq l l'&&w==w')))
 | .ip cs az d,.ip cs' az' d'=>Nat.beq d d'&&(wX Jp az az'&&X.beqL cs cs')
 | .ro z es f,.ro z' es' f'=>Nat.beq z z'&&(f==f'&&X.beqE es es')
 | .rl z n l f,.rl z' n' l' f'=>Nat.beq z z'&&(f==f'&&(n.beq n'&&l.beq l'))
 | .fn f xs ys,.fn f' xs' ys'=>U6 f f'&&(X.beqL xs xs'&&X.beqL ys ys')
 | .gd c x,.gd c' x'=>c.beq c'&&x.beq x'
 | .rows z n l,.rows z' n' l'=>Nat.beq z z'&&(n.beq n'&&l.beq l')
 | .slv n z o l w,.slv n' z' o' l' w'=>eG n n'&&(Nat.beq z z'&&(o.beq o'&&(l.beq l'&&w==w')))
 | .ptrv n z j o,.ptrv n' z' j' o'=>eG n n'&&(Nat.beq z z'&&(j.beq j'&&Nat.beq o o'))
 | .rn z n l ks f,.rn z' n' l' ks' f'=>Nat.beq z z'&&(f==f'&&(n.beq n'&&(Nat.beq l l'&&wX Uy ks ks')))
 | .tk z m t es,.tk z' m' t' es'=>Nat.beq z z'&&(m.beq m'&&(Nat.beq t t'&&X.beqE es es'))
 | .tq z m t es f,.tq z' m' t' es' f'=>Nat.beq z z'&&(f==f'&&(m.beq m'&&(Nat.beq t t'&&X.beqE es es')))
 | .cel t o j,.cel t' o' j'=>Nat.beq t t'&&(Nat.beq o o'&&j.beq j')
 | _,_=>false
def X.beqL:List X->List X->Bool
 | [],[]=>true
 | a::az,b::bs=>a.beq b&&X.beqL az bs
 | _,_=>false
def X.beqE:List (List X)->List (List X)->Bool
 | [],[]=>true
 | a::az,b::bs=>X.beqL a b&&X.beqE az bs
 | _,_=>false
end
mutual
theorem X.beq_eq:∀(a b:X),a.beq b=true->a=b
 | .top,b,h=>by cases b<;>simp[X.beq]at h ⊢
 | .k v,b,h=>by cases b<;>simp[X.beq]at h ⊢;exact JD h
 | .sc v,b,h=>by cases b<;>simp[X.beq]at h ⊢;exact Sc.beq_eq h
 | .agg cs,b,h=>by cases b<;>simp[X.beq]at h ⊢;exact X.beqL_eq _ _ h
 | .tup cs,b,h=>by cases b<;>simp[X.beq]at h ⊢;exact X.beqL_eq _ _ h
 | .ptr n az d,b,h=>by
  cases b<;>simp[X.beq]at h ⊢
  exact⟨bT h.1,jQ vk h.2.2,h.2.1⟩
 | .sl n z o l w,b,h=>by
  cases b<;>simp[X.beq]at h ⊢
  exact⟨bT h.1,h.2.1,h.2.2.1,h.2.2.2.1,h.2.2.2.2⟩
 | .ip cs az d,b,h=>by
  cases b<;>simp[X.beq]at h ⊢
  exact⟨X.beqL_eq _ _ h.2.2,jQ vk h.2.1,h.1⟩
 | .ro z es f,b,h=>by
  cases b<;>simp[X.beq]at h ⊢
  exact⟨h.1,X.beqE_eq _ _ h.2.2,h.2.1⟩
 | .rl z n l f,b,h=>by
  cases b<;>simp[X.beq]at h ⊢
  exact⟨h.1,IE.beq_eq _ _ h.2.2.1,RL.beq_eq h.2.2.2,h.2.1⟩
 | .fn f xs ys,b,h=>by
  cases b<;>simp[X.beq]at h ⊢
  exact⟨OO h.1,X.beqL_eq _ _ h.2.1,X.beqL_eq _ _ h.2.2⟩
 | .gd c x,b,h=>by
  cases b<;>simp[X.beq]at h ⊢
  exact⟨BE.beq_eq _ _ h.1,X.beq_eq _ _ h.2⟩
 | .rows z n l,b,h=>by
  cases b<;>simp[X.beq]at h ⊢
  exact⟨h.1,IE.beq_eq _ _ h.2.1,RL.beq_eq h.2.2⟩
 | .slv n z o l w,b,h=>by
  cases b<;>simp[X.beq]at h ⊢
  exact⟨bT h.1,h.2.1,IE.beq_eq _ _ h.2.2.1,IE.beq_eq _ _ h.2.2.2.1,h.2.2.2.2⟩
 | .ptrv n z j o,b,h=>by
  cases b<;>simp[X.beq]at h ⊢
  exact⟨bT h.1,h.2.1,IE.beq_eq _ _ h.2.2.1,h.2.2.2⟩
 | .rn z n l ks f,b,h=>by
  cases b<;>simp[X.beq]at h ⊢
  exact⟨h.1,IE.beq_eq _ _ h.2.2.1,h.2.2.2.1,jQ (fun _ _=>N8) h.2.2.2.2,h.2.1⟩
 | .tk z m t es,b,h=>by
  cases b<;>simp[X.beq]at h ⊢
  exact⟨h.1,IE.beq_eq _ _ h.2.1,h.2.2.1,X.beqE_eq _ _ h.2.2.2⟩
 | .tq z m t es f,b,h=>by
  cases b<;>simp[X.beq]at h ⊢
  exact⟨h.1,IE.beq_eq _ _ h.2.2.1,h.2.2.2.1,X.beqE_eq _ _ h.2.2.2.2,h.2.1⟩
 | .cel t o j,b,h=>by
  cases b<;>simp[X.beq]at h ⊢
  exact⟨h.1,h.2.1,IE.beq_eq _ _ h.2.2⟩
theorem X.beqL_eq:∀(a b:List X),X.beqL a b=true->a=b
 | [],[],_=>rfl
 | a::az,b::bs,h=>by
  simp only[X.beqL,Bool.and_eq_true]at h
  rw[X.beq_eq a b h.1,X.beqL_eq az bs h.2]
 | [],_::_,h=>by simp[X.beqL]at h
 | _::_,[],h=>by simp[X.beqL]at h
theorem X.beqE_eq:∀(a b:List (List X)),X.beqE a b=true->a=b
 | [],[],_=>rfl
 | a::az,b::bs,h=>by
  simp only[X.beqE,Bool.and_eq_true]at h
  rw[X.beqL_eq a b h.1,X.beqE_eq az bs h.2]
 | [],_::_,h=>by simp[X.beqE]at h
 | _::_,[],h=>by simp[X.beqE]at h
end
mutual
def X.mix (c:BE):X->X->Option X
 | .sc a,.sc b=>match DJ c a b with
  | some s=>some (.sc s)
  | none=>none
 | .agg cs,.agg ds=>match X.mixL c cs ds with
  | some es=>some (.agg es)
  | none=>none
 | .tup cs,.tup ds=>match X.mixL c cs ds with
  | some es=>some (.tup es)
  | none=>none
 | .slv n z o l w,.slv n' z' o' l' w'=>if(eG n n'&&(Nat.beq z z'&&w==w'))=true then some (.slv n z (lu c o o') (lu c l l') w)else none
 | .rl z n l f,.rl z' n' l' f'=>if(Nat.beq z z'&&f==f')=true then some (.rl z (lu c n n') (Xo c l l') f)else none
 | x,y=>if x.beq y=true then some x else none
def X.mixL (c:BE):List X->List X->Option (List X)
 | [],[]=>some []
 | a::az,b::bs=>match X.mix c a b with
  | some s=>match X.mixL c az bs with
   | some r=>some (s::r)
   | none=>none
  | none=>none
 | _,_=>none
end
theorem eX {J:Rho} {c:BE} {x y z:X} (h:(if x.beq y=true then some x else none)=some z):z.den J=if c.den J=true then x.den J else y.den J:=by
 split at h
 ·rename_i hb;cases h;rw[<-X.beq_eq _ _ hb];simp
 ·cases h
mutual
theorem X.mix_den {J:Rho} {c:BE}:∀(x y z:X),X.mix c x y=some z->z.den J=if c.den J=true then x.den J else y.den J
 | .sc a,y,z,h=>by
  cases y
  case sc b =>
   simp only[X.mix]at h
   split at h
   ·rename_i s hs
    cases h
    simp only[X.den,BX (J:=J) hs]
    split<;>rfl
   ·cases h
  all_goals exact eX (by simpa only[X.mix]using h)
 | .agg cs,y,z,h=>by
  cases y
  case agg ds =>
   simp only[X.mix]at h
   split at h
   ·rename_i s hs
    cases h
    simp only[X.den,X.mixL_den cs ds s hs]
    split<;>rfl
   ·cases h
  all_goals exact eX (by simpa only[X.mix]using h)
 | .tup cs,y,z,h=>by
  cases y
  case tup ds =>
   simp only[X.mix]at h
   split at h
   ·rename_i s hs
    cases h
    simp only[X.den,X.mixL_den cs ds s hs]
    split<;>rfl
   ·cases h
  all_goals exact eX (by simpa only[X.mix]using h)
 | .top,y,z,h=>eX (by simpa only[X.mix]using h)
 | .k _,y,z,h=>eX (by simpa only[X.mix]using h)
 | .ptr _ _ _,y,z,h=>eX (by simpa only[X.mix]using h)
 | .sl _ _ _ _ _,y,z,h=>eX (by simpa only[X.mix]using h)
 | .ip _ _ _,y,z,h=>eX (by simpa only[X.mix]using h)
 | .ro _ _ _,y,z,h=>eX (by simpa only[X.mix]using h)
 | .rl z n l f,y,q,h=>by
  cases y
  case rl z' n' l' f' =>
   simp only[X.mix]at h
   split at h
   ·rename_i hc
    simp only[Bool.and_eq_true,beq_iff_eq]at hc
    have hz:=Nat.eq_of_beq_eq_true hc.1
    have hf:=hc.2
    subst hz hf
    cases h
    simp only[X.den]
    have:aC J (lu c n n') (Xo c l l')=if c.den J=true then aC J n l else aC J n' l':=by
     unfold aC
     rw[jF]
     simp only[Oe]
     split<;>rfl
    rw[this]
    split<;>rfl
   ·cases h
  all_goals exact eX (by simpa only[X.mix]using h)
 | .slv n z o l w,y,q,h=>by
  cases y
  case slv n' z' o' l' w' =>
   simp only[X.mix]at h
   split at h
   ·rename_i hc
    simp only[Bool.and_eq_true,beq_iff_eq]at hc
    have hn:=bT hc.1
    have hz:=Nat.eq_of_beq_eq_true hc.2.1
    have hw:=hc.2.2
    subst hn hz hw
    cases h
    simp only[X.den,jF]
    split<;>rfl
   ·cases h
  all_goals exact eX (by simpa only[X.mix]using h)
 | .rows _ _ _,y,z,h=>eX (by simpa only[X.mix]using h)
 | .ptrv _ _ _ _,y,z,h=>eX (by simpa only[X.mix]using h)
 | .rn _ _ _ _ _,y,z,h=>eX (by simpa only[X.mix]using h)
 | .tk _ _ _ _,y,z,h=>eX (by simpa only[X.mix]using h)
 | .tq _ _ _ _ _,y,z,h=>eX (by simpa only[X.mix]using h)
 | .cel _ _ _,y,z,h=>eX (by simpa only[X.mix]using h)
 | .fn _ _ _,y,z,h=>eX (by simpa only[X.mix]using h)
 | .gd _ _,y,z,h=>eX (by simpa only[X.mix]using h)
theorem X.mixL_den {J:Rho} {c:BE}:∀(x y z:List X),X.mixL c x y=some z->X.denL J z=if c.den J=true then X.denL J x else X.denL J y
 | [],[],z,h=>by simp only[X.mixL,Option.some.injEq]at h;subst h;simp
 | a::az,b::bs,z,h=>by
  simp only[X.mixL]at h
  split at h
  ·rename_i s hs
   split at h
   ·rename_i r hr
    cases h
    simp only[X.denL,X.mix_den a b s hs,X.mixL_den az bs r hr]
    split<;>rfl
   ·cases h
  ·cases h
 | [],_::_,_,h=>by simp[X.mixL]at h
 | _::_,[],_,h=>by simp[X.mixL]at h
end
end Go.Proofs.Xw
namespace Go.Proofs.Xw
open Go Go.Proofs.Aw
structure TI where
 cells:Nat
 agg:Option Bool
 zero:Option (List Value)
 arr:Option (Nat×Nat)
 arrA:Option Bool
 sl:Option (Nat×Nat)
 rc:Option (List (Nat×Nat))
 rcA:Option (List (Option Bool))
 str:Bool
 bl:Bool
 lv:Option (List Nat)
 by_:Nat
 ik:Option IntKind
 und:Bool
 fl:Bool
 pt:Bool
def zeroV (P:Program) (t:TypeId):Option (List Value):=(P.info? t).bind fun i=>i.zero.map fun v=>v.cells.toList
theorem yE (P:Program) (t:TypeId):jk P t=(zeroV P t).map fun l=>l.map AV.sc:=by
 unfold jk zeroV
 cases P.info? t with
 | none=>rfl
 | some i=>cases h:i.zero<;>simp[h]
def bg2 (P:Program) (t:TypeId):Option IntKind:=match P.underlying t with | some (.int k)=>some k | _=>none
def bi7 (P:Program) (t:TypeId):Bool:=match P.underlying t with | some (.float .f64)=>true | _=>false
def fZ (P:Program) (t:TypeId):TI :=
 { cells:=P.cellsOf t,agg:=nC P t,zero:=zeroV P t,arr:=lJ P t,arrA:=arrA P t,sl:=jU P t,rc:=uz P t,rcA:=ZT P t,str:=CP P t,bl:=boolT P t,lv:=rW P t,by_:=dA P t,ik:=bg2 P t,und:=(P.underlying t).isSome,fl:=bi7 P t,pt:=ptT P t }
abbrev bg:=List (Nm×List X)
abbrev dR:=List (Nm×Option (List X))
abbrev ig:=List (Nat×X)
def aZ:List X->Bool
 | [.rows _ _ _]=>true
 | [.tk _ _ _ _]=>true
 | _=>false
noncomputable def aF (J:Rho):List X->List AV
 | [.rows _ n l]=>(aC J n l).flatten
 | [.tk z m t es]=>(bD J z m t++X.denE J es).flatten
 | cs=>X.denL J cs
theorem bC {J:Rho} {cs:List X} (h:aZ cs=false):aF J cs=X.denL J cs:=by
 unfold aF
 split
 ·simp[aZ]at h
 ·simp[aZ]at h
 ·rfl
def aT:bg->Nm->Option (List X)
 | [],_=>none
 | (m,v)::l,n=>if eG m n=true then some v else aT l n
def QB (cs:List X):Option (List X):=if aZ cs=true then none else some cs
def xk (h:bg) (n:Nm):Option (List X):=match aT h n with
 | some cs=>QB cs
 | none=>none
theorem Xi {cs ds:List X} (h:QB cs=some ds):cs=ds/\aZ ds=false:=by
 unfold QB at h
 split at h
 ·cases h
 ·rename_i hr;cases h;exact⟨rfl,by simpa using hr⟩
theorem aH7 {h:bg} {n:Nm} {cs:List X} (hg:xk h n=some cs):aT h n=some cs/\aZ cs=false:=by
 unfold xk at hg
 split at hg
 ·rename_i ds hd
  obtain⟨h1,h2⟩:=Xi hg
  subst h1
  exact⟨hd,h2⟩
 ·cases hg
def IR:bg->Nm->bg
 | [],_=>[]
 | (m,v)::l,n=>if eG m n=true then IR l n else(m,v)::IR l n
def IP:bg->Nm->List X->bg
 | [],n,v=>[(n,v)]
 | (m,u)::l,n,v=>if eG m n=true then(m,v)::l else(m,u)::IP l n v
def tZ:dR->bg->bg
 | [],h=>h
 | (n,some v)::d,h=>tZ d (IP h n v)
 | (n,none)::d,h=>tZ d (IR h n)
noncomputable def aV (J:Rho) (h:bg):Hp:=h.map fun p=>(p.1,aF J p.2)
noncomputable def bZ (J:Rho) (d:dR):Dl:=d.map fun p=>(p.1,p.2.map (aF J))
noncomputable def og (J:Rho) (t:ig):Tp:=t.map fun p=>(p.1,p.2.den J)
theorem AB {a b:Nm}:eG a b=true<->a=b:=⟨bT,fun h=>by subst h;simp[eG]⟩
theorem aG (J:Rho) (n:Nm):∀h:bg,hget (aV J h) n=(aT h n).map (aF J)
 | []=>rfl
 | (m,v)::l=>by
  have ih:=aG J n l
  simp only[aV,List.map_cons,hget,aT,AB]at ih ⊢
  by_cases e:m=n
  ·rw[if_pos e,if_pos e];rfl
  ·rw[if_neg e,if_neg e];exact ih
theorem oJ {J:Rho} {n:Nm} {h:bg} {cs:List X} (hg:xk h n=some cs):hget (aV J h) n=some (X.denL J cs):=by
 obtain⟨h1,h2⟩:=aH7 hg
 rw[aG,h1,Option.map_some,bC h2]
theorem Jg (J:Rho) (n:Nm):∀h:bg,aV J (IR h n)=hdel (aV J h) n
 | []=>rfl
 | (m,v)::l=>by
  have ih:=Jg J n l
  simp only[aV,List.map_cons,hdel,IR,AB]at ih ⊢
  by_cases e:m=n
  ·rw[if_pos e,if_pos e];exact ih
  ·rw[if_neg e,if_neg e,List.map_cons,ih]
theorem Jf (J:Rho) (n:Nm) (v:List X):∀h:bg,aV J (IP h n v)=hset (aV J h) n (aF J v)
 | []=>rfl
 | (m,u)::l=>by
  have ih:=Jf J n v l
  simp only[aV,List.map_cons,hset,IP,AB]at ih ⊢
  by_cases e:m=n
  ·rw[if_pos e,if_pos e];rfl
  ·rw[if_neg e,if_neg e,List.map_cons,ih]
theorem kC (J:Rho):∀(d:dR) (h:bg),aV J (tZ d h)=hap (bZ J d) (aV J h)
 | [],_=>rfl
 | (n,some v)::d,h=>by
  have ih:=kC J d (IP h n v)
  simp only[tZ,bZ,List.map_cons,Option.map_some,hap]at ih ⊢
  rw[ih,Jf]
 | (n,none)::d,h=>by
  have ih:=kC J d (IR h n)
  simp only[tZ,bZ,List.map_cons,Option.map_none,hap]at ih ⊢
  rw[ih,Jg]
def bJ:ig->Nat->X
 | [],_ => .top
 | (j,v)::l,i=>if Nat.beq j i=true then v else bJ l i
theorem dW (J:Rho) (i:Nat):∀t:ig,dX (og J t) i=(bJ t i).den J
 | []=>rfl
 | (j,v)::l=>by
  have ih:=dW J i l
  simp only[og,List.map_cons,dX,bJ]at ih ⊢
  by_cases e:j=i
  ·rw[if_pos e,if_pos (by simpa using e)]
  ·rw[if_neg e,if_neg (by simpa using e)];exact ih
def tH (d:Option Tmp) (v:X) (t:ig):ig :=
 match d with
 | some d=>(d,v)::t
 | none=>t
theorem zQ (J:Rho) (d:Option Tmp) (v:X) (t:ig):og J (tH d v t)=qm d (v.den J) (og J t):=by cases d<;>rfl
def X.cells:X->List X
 | .agg cs=>cs
 | v=>[v]
def X.one:X->Bool
 | .top | .agg _ | .tup _ | .gd _ _ | .rows _ _ _ | .tk _ _ _ _=>false
 | .k v=>v.oneCell'
 | _=>true
theorem X.one_den (J:Rho) (x:X) (h:x.one=true):(x.den J).one=true:=by
 cases x with
 | sc s=>cases s<;>rfl
 | k v=>exact h
 | gd c x=>cases h
 | top=>cases h
 | agg cs=>cases h
 | tup cs=>cases h
 | rows z n l=>cases h
 | tk _ _ _ _=>cases h
 | cel t o j=>exact(J.ct t o _).2.2
 | _=>rfl
theorem QU {l:List X} (h:l.all X.one=true):aZ l=false:=by
 unfold aZ
 split
 ·simp[X.one]at h
 ·simp[X.one]at h
 ·rfl
theorem Wh {v:AV} (h:v.one=true):v.cells=[v]:=by
 cases v<;>first | rfl | cases h
theorem X.all_one (J:Rho):∀l:List X,l.all X.one=true->(X.denL J l).all AV.one=true
 | [],_=>rfl
 | x::xs,h=>by
  simp only[List.all_cons,Bool.and_eq_true]at h
  simp only[X.denL,List.all_cons,X.one_den J x h.1,X.all_one J xs h.2,Bool.and_self]
theorem X.cells_den (J:Rho) (x:X) (h:x.cells.all X.one=true):(x.den J).cells=X.denL J x.cells:=by
 cases x with
 | gd c x=>simp[X.cells,X.one]at h
 | cel t o j=>exact Wh (J.ct t o _).2.2
 | _=>rfl
def rE (k:Nat):List (BE×Nat)->List (BE×Nat)
 | []=>[]
 | (c,o)::r=>(c,o+k)::rE k r
theorem lF (J:Rho) (k d:Nat):∀az,choose J (rE k az) (d+k)=choose J az d+k
 | []=>rfl
 | (c,o)::r=>by
  simp only[rE,choose,lF J k d r]
  split<;>rfl
def altRow (g:BE->BE) (e:IE) (z o:Nat):Nat->List (BE×Nat)->List (BE×Nat)
 | 0,r=>r
 | m+1,r=>altRow g e z o m ((g (mkEq e (.lit m)),o+m*z)::r)
theorem qB {J:Rho} {g:BE->BE} {v:Bool} (hg:∀b,(g b).den J=(v&&b.den J)) {e:IE} {j:Nat} (he:e.den J=j) (z o d:Nat):∀(m:Nat) (r:List (BE×Nat)),
  choose J (altRow g e z o m r) d=if v=true/\j<m then o+j*z else choose J r d
 | 0,r=>by simp[altRow]
 | m+1,r=>by
  rw[altRow,qB hg he z o d m]
  simp only[choose,hg,cZ,he,IE.den]
  by_cases hv:v=true
  ·subst hv
   by_cases h1:j<m
   ·rw[if_pos ⟨rfl,h1⟩,if_pos ⟨rfl,by omega⟩]
   ·rw[if_neg (by simp[h1])]
    by_cases h2:j=m
    ·subst h2;simp
    ·have h3:¬(j<m+1):=by omega
     have h4:((j:Int)==(m:Int))=false:=by
      rw[beq_eq_false_iff_ne];intro h;apply h2;exact_mod_cast h
     simp[h3,h4]
  ·have hf:v=false:=by simpa using hv
   subst hf;simp
def Fh (e:IE) (z len:Nat):List (BE×Nat)->Nat->List (BE×Nat)
 | [],d=>altRow (fun b=>b) e z d (len-1) []
 | (c,o)::r,d=>altRow (mkAnd c) e z o (len-1) ((c,o+(len-1)*z)::Fh e z len r d)
theorem sH {J:Rho} {e:IE} {z len:Nat} {j:Nat} (he:e.den J=j) (hj:j<len) (d:Nat):∀az,choose J (Fh e z len az d) (d+(len-1)*z)=choose J az d+j*z
 | []=>by
  rw[Fh,qB (v:=true) (fun b=>by simp) he]
  simp only[choose,true_and]
  split
  ·rfl
  ·rw[show len-1=j from by omega]
 | (c,o)::r=>by
  rw[Fh,qB (v:=c.den J) (fun b=>by rw[df]) he]
  simp only[choose,sH he hj d r]
  by_cases hc:c.den J=true
  ·simp only[hc,true_and,if_true]
   split
   ·rfl
   ·rw[show len-1=j from by omega]
  ·simp[hc]
def rdX:Option Bool->Nat->List X->Nat->Option X
 | some true,z,cs,off=>if Nat.blt 0 z&&Nat.ble (off+z) cs.length then some (.agg ((cs.drop off).take z))else none
 | some false,_,cs,off=>cs[off]?
 | none,_,_,_=>none
theorem vS {J:Rho} {b:Option Bool} {z:Nat} {cs:List X} {off:Nat} {v:X} (h:rdX b z cs off=some v):PU b z (X.denL J cs) off=some (v.den J):=by
 unfold rdX at h
 split at h
 ·split at h
  ·rename_i hc
   simp only[Bool.and_eq_true,Nat.blt_eq,Nat.ble_eq]at hc
   cases h
   simp only[PU,X.denL_len,X.den,X.denL_take,X.denL_drop]
   rw[if_pos ⟨by simpa [Nat.blt_eq]using hc.1,hc.2⟩]
  ·cases h
 ·simp only[PU,X.denL_get,h,Option.map_some]
 ·cases h
def V5 (b:Option Bool) (z:Nat) (cs:List X):List (BE×Nat)->Nat->Option X
 | [],d=>rdX b z cs d
 | (c,o)::r,d=>match rdX b z cs o,V5 b z cs r d with
  | some x,some y=>X.mix c x y
  | _,_=>none
theorem yY {J:Rho} {b:Option Bool} {z:Nat} {cs:List X} {d:Nat}:∀{az:List (BE×Nat)} {v:X},V5 b z cs az d=some v->PU b z (X.denL J cs) (choose J az d)=some (v.den J)
 | [],v,h=>vS h
 | (c,o)::r,v,h=>by
  simp only[V5]at h
  split at h
  ·rename_i x y h1 h2
   rw[X.mix_den _ _ _ h]
   simp only[choose]
   split
   ·exact vS h1
   ·exact yY h2
  ·cases h
def UK (i:TI) (h:bg):X->Option X
 | .ptr n az d=>match xk h n with
  | some cs=>V5 i.agg i.cells cs az d
  | none=>none
 | .ip cs az d=>V5 i.agg i.cells cs az d
 | _=>none
theorem IK {P:Program} {J:Rho} {ty:TypeId} {h:bg} {x v:X} (hv:UK (fZ P ty) h x=some v):uM P (aV J h) ty (x.den J)=some (v.den J):=by
 unfold UK at hv
 split at hv
 ·split at hv
  ·rename_i cs hg
   simp only[X.den,uM,oJ hg,rdO]
   exact yY hv
  ·cases hv
 ·simp only[X.den,uM]
  exact yY hv
 ·cases hv
def pV (cs:List X) (off:Nat) (vs:List X):List X:=cs.take off++(vs++cs.drop (off+vs.length))
theorem pU (J:Rho) (cs:List X) (off:Nat) (vs:List X):X.denL J (pV cs off vs)=eH (X.denL J cs) off (X.denL J vs):=by
 simp only[pV,eH,X.denL_append,X.denL_take,X.denL_drop,X.denL_len]
def wr1 (z:Nat) (cs ys:List X) (o:Nat):Option (List X):=if Nat.blt 0 z&&(Nat.beq ys.length z&&(Nat.ble (o+z) cs.length&&ys.all X.one))then some (pV cs o ys)else none
theorem Tv {J:Rho} {z:Nat} {cs ys cs':List X} {o:Nat} {m:Nm} (h:wr1 z cs ys o=some cs'):wrN z m o (X.denL J ys) (some (X.denL J cs))=some [(m,some (X.denL J cs'))]:=by
 unfold wr1 at h
 split at h
 ·rename_i hc
  simp only[Bool.and_eq_true,Nat.ble_eq]at hc
  cases h
  simp only[wrN,X.denL_len,pU]
  rw[if_pos ⟨by simpa [Nat.blt_eq]using hc.1,Nat.eq_of_beq_eq_true hc.2.1,hc.2.2.1,X.all_one J _ hc.2.2.2⟩]
 ·cases h
def at7 (z:Nat) (cs ys:List X):List (BE×Nat)->Nat->Option (List X)
 | [],d=>wr1 z cs ys d
 | (c,o)::r,d=>match wr1 z cs ys o,at7 z cs ys r d with
  | some x,some y=>X.mixL c x y
  | _,_=>none
theorem MH {J:Rho} {z:Nat} {cs ys:List X} {d:Nat} {m:Nm}:∀{az:List (BE×Nat)} {cs':List X},at7 z cs ys az d=some cs'->wrN z m (choose J az d) (X.denL J ys) (some (X.denL J cs))=some [(m,some (X.denL J cs'))]
 | [],_,h=>Tv h
 | (c,o)::r,v,h=>by
  simp only[at7]at h
  split at h
  ·rename_i x y h1 h2
   rw[X.mixL_den _ _ _ h]
   simp only[choose]
   split
   ·exact Tv h1
   ·exact MH h2
  ·cases h
def Qc (i:TI) (h:bg):X->List X->Option dR
 | .ptr n az d,ys=>if ys.all X.one=true then match xk h n with
  | some cs=>match at7 i.cells cs ys az d with
   | some cs'=>if aZ cs'=true then none else some [(n,some cs')]
   | none=>none
  | none=>none
  else none
 | _,_=>none
theorem Qb {P:Program} {J:Rho} {ty:TypeId} {h:bg} {x:X} {ys:List X} {d:dR} (hv:Qc (fZ P ty) h x ys=some d):ys.all X.one=true/\qo P (aV J h) ty (x.den J) (X.denL J ys)=some (bZ J d):=by
 unfold Qc at hv
 split at hv
 ·split at hv
  ·rename_i hone
   split at hv
   ·rename_i cs hg
    split at hv
    ·rename_i cs' hw
     split at hv
     ·cases hv
     ·rename_i hr
      cases hv
      refine⟨hone,?_⟩
      simp only[X.den,qo,oJ hg,bZ,List.map_cons,List.map_nil,Option.map_some,bC (J:=J) (show aZ cs'=false by simpa using hr)]
      exact MH hw
    ·cases hv
   ·cases hv
  ·cases hv
 ·cases hv
def inB {α:Type} (Φ:Facts) (e n:IE) (k:Facts->T α):T α:=want Φ (mkNot (eU e (.lit 0))) fun Φ=>want Φ (eU e n) k
theorem jm {α:Type} {J:Rho} {Φ:Facts} {e n:IE} {k:Facts->T α} {a:α} (hk:Facts.ok J Φ) (h:(inB Φ e n k).sel J=some a):∃Φ' j,Facts.ok J Φ'/\e.den J=(j:Nat)/\(j:Int)<n.den J/\(k Φ').sel J=some a:=by
 unfold inB at h
 obtain⟨Φ1,hk1,h1,h⟩:=aS hk h
 obtain⟨Φ2,hk2,h2,h⟩:=aS hk1 h
 rw[bz,dY]at h1
 rw[dY]at h2
 have h1:¬(IE.den J e<IE.den J (.lit 0)):=fun hh=>by rw[decide_eq_true hh]at h1;cases h1
 have h2:=of_decide_eq_true h2
 simp only[IE.den]at h1
 exact⟨Φ2,(e.den J).toNat,hk2,by omega,by omega,h⟩
def Uf (n:Nm) (az:List (BE×Nat)) (d:Nat) (e:IE) (z len:Nat):X :=
 match e with
 | .lit j => .ptr n (rE (j.toNat*z) az) (d+j.toNat*z)
 | e => .ptr n (Fh e z len az d) (d+(len-1)*z)
theorem Ie {J:Rho} {n:Nm} {az:List (BE×Nat)} {d:Nat} {e:IE} {z len j:Nat} (he:e.den J=j) (hj:j<len):(Uf n az d e z len).den J = .ptr n (choose J az d+j*z):=by
 unfold Uf
 split
 ·rename_i i
  simp only[IE.den]at he
  simp only[X.den,lF,he,Int.toNat_natCast]
 ·simp only[X.den,sH he hj]
def bf7 (cs:List X) (az:List (BE×Nat)) (d:Nat) (e:IE) (z len:Nat):X :=
 match e with
 | .lit j => .ip cs (rE (j.toNat*z) az) (d+j.toNat*z)
 | e => .ip cs (Fh e z len az d) (d+(len-1)*z)
theorem ah6 {J:Rho} {cs:List X} {az:List (BE×Nat)} {d:Nat} {e:IE} {z len j:Nat} (he:e.den J=j) (hj:j<len):(bf7 cs az d e z len).den J = .ip (X.denL J cs) (choose J az d+j*z):=by
 unfold bf7
 split
 ·rename_i i
  simp only[IE.den]at he
  simp only[X.den,lF,he,Int.toNat_natCast]
 ·simp only[X.den,sH he hj]
def ad1 (e:IE):Nat->List (List X)->Option (List X)
 | _,[]=>none
 | _,[r]=>some r
 | j,r::rs=>match ad1 e (j+1) rs with
  | some y=>X.mixL (mkEq e (.lit j)) r y
  | none=>none
theorem Oc {J:Rho} {e:IE}:∀(es:List (List X)) (j t:Nat) (r:List X),e.den J=((j+t:Nat):Int)->t<es.length->ad1 e j es=some r->(X.denE J es)[t]? = some (X.denL J r)
 | [],j,t,r,_,ht,_=>by simp at ht
 | [a],j,t,r,_,ht,h=>by
  simp only[ad1,Option.some.injEq]at h
  subst h
  obtain rfl:t=0:=by simpa using ht
  rfl
 | a::b::rs,j,t,r,he,ht,h=>by
  simp only[ad1]at h
  split at h
  ·rename_i y hy
   rw[X.mixL_den _ _ _ h]
   cases t with
   | zero =>
    have hc:(mkEq e (.lit j)).den J=true:=by rw[cZ,he];simp[IE.den]
    rw[if_pos hc];rfl
   | succ t =>
    have hc:¬(mkEq e (.lit j)).den J=true:=by rw[cZ,he];simp only[IE.den,beq_iff_eq];omega
    rw[if_neg hc]
    simp only[X.denE,List.getElem?_cons_succ]
    have:=Oc (b::rs) (j+1) t y (by rw[he];congr 1;omega) (by simpa using ht) hy
    simpa only[X.denE]using this
  ·cases h
def rowAt (e:IE) (es:List (List X)):Option (List X) :=
 match e with
 | .lit j=>es[j.toNat]?
 | e=>ad1 e 0 es
theorem VY {J:Rho} {e:IE} {es:List (List X)} {j:Nat} {r:List X} (he:e.den J=j) (hj:j<es.length) (h:rowAt e es=some r):(X.denE J es)[j]? = some (X.denL J r):=by
 unfold rowAt at h
 split at h
 ·rename_i i
  simp only[IE.den]at he
  rw[he,Int.toNat_natCast]at h
  rw[X.denE_get,h];rfl
 ·exact Oc es 0 j r (by rw[he];simp) hj h
def RL.getF (Φ:Facts):RL->IE->Option (List Sc)
 | .var l ks,j=>some (sS l j 0 ks)
 | .one r,_=>some r
 | .app n a b,j=>match red Φ (eU j n)with
  | .lit true=>a.getF Φ j
  | .lit false=>b.getF Φ (oV j n)
  | c=>match a.getF Φ j,b.getF Φ (oV j n)with
   | some x,some y=>ja c x y
   | _,_=>none
 | .drop n a,j=>a.getF Φ (fC j n)
 | .upd i r a,j=>match red Φ (mkEq j i)with
  | .lit true=>some r
  | .lit false=>a.getF Φ j
  | c=>match a.getF Φ j with
   | some y=>ja c r y
   | none=>none
 | .ite c a b,j=>match red Φ c with
  | .lit true=>a.getF Φ j
  | .lit false=>b.getF Φ j
  | c=>match a.getF Φ j,b.getF Φ j with
   | some x,some y=>ja c x y
   | _,_=>none
theorem RL.getF_den {J:Rho} {Φ:Facts} (hk:Facts.ok J Φ):∀{l:RL} {j:IE} {r:List Sc},l.getF Φ j=some r->mQ J r=l.row J (j.den J)
 | .var l ks,j,r,h=>by
  simp only[RL.getF,Option.some.injEq]at h
  subst h
  exact pI J l j 0 ks
 | .one s,j,r,h=>by
  simp only[RL.getF,Option.some.injEq]at h
  subst h;rfl
 | .app n a b,j,r,h=>by
  simp only[RL.getF]at h
  have hc:=(bu hk (eU j n)).trans (dY J j n)
  simp only[RL.row]
  split at h
  ·rename_i hd
   rw[hd]at hc
   have:=of_decide_eq_true (hc.symm)
   rw[if_pos this]
   exact RL.getF_den hk h
  ·rename_i hd
   rw[hd]at hc
   have:=of_decide_eq_false (hc.symm)
   rw[if_neg this,<-gX]
   exact RL.getF_den hk h
  ·split at h
   ·rename_i x y h1 h2
    rw[iQ h,RL.getF_den hk h1,RL.getF_den hk h2,gX,hc]
    by_cases hh:IE.den J j<IE.den J n
    ·rw[if_pos (decide_eq_true hh),if_pos hh]
    ·rw[if_neg (by simpa using hh),if_neg hh]
   ·cases h
 | .drop n a,j,r,h=>by
  simp only[RL.getF]at h
  simp only[RL.row]
  rw[<-bK]
  exact RL.getF_den hk h
 | .upd i q a,j,r,h=>by
  simp only[RL.getF]at h
  have hc:=(bu hk (mkEq j i)).trans (cZ J j i)
  simp only[RL.row]
  split at h
  ·rename_i hd
   rw[hd]at hc
   cases h
   rw[if_pos (by simpa [BE.den]using hc.symm)]
  ·rename_i hd
   rw[hd]at hc
   rw[if_neg (by simpa [BE.den]using hc.symm)]
   exact RL.getF_den hk h
  ·split at h
   ·rename_i y h2
    rw[iQ h,RL.getF_den hk h2,hc]
    by_cases hh:IE.den J j=IE.den J i
    ·rw[if_pos (by simpa using hh),if_pos hh]
    ·rw[if_neg (by simpa using hh),if_neg hh]
   ·cases h
 | .ite c a b,j,r,h=>by
  simp only[RL.getF]at h
  simp only[RL.row]
  have hc:=bu hk c
  split at h
  ·rename_i hd
   rw[hd]at hc
   rw[if_pos (show BE.den J c=true from hc.symm)]
   exact RL.getF_den hk h
  ·rename_i hd
   rw[hd]at hc
   rw[if_neg (by rw[<-hc];simp[BE.den])]
   exact RL.getF_den hk h
  ·split at h
   ·rename_i x y h1 h2
    rw[iQ h,RL.getF_den hk h1,RL.getF_den hk h2,hc]
   ·cases h
def lN (h:bg) (n:Nm):Bool:=(aT h n).isSome
theorem fB {J:Rho} {h:bg} {n:Nm} (hk:lN h n=true):(hget (aV J h) n).isSome=true:=by
 rw[aG];unfold lN at hk;simpa using hk
def lL {α:Type}:Option α->T α
 | some a => .ret a
 | none=>(.fail [])
theorem di {α:Type} {J:Rho} {o:Option α} {a:α} (h:(lL o).sel J=some a):o=some a:=by
 cases o with
 | none=>cases h
 | some b=>cases h;rfl
def aB8 (Φ:Facts) (e:IE):IE:=match Fe Φ e with
 | ⟨some l,some h⟩=>if l=h then .lit l else e
 | _=>e
theorem NM {J:Rho} {Φ:Facts} (hk:Facts.ok J Φ) (e:IE):(aB8 Φ e).den J=e.den J:=by
 unfold aB8
 split
 ·rename_i l h hv
  split
  ·rename_i he
   have:=iE hk e
   rw[hv]at this
   have h1:=this.1 l rfl
   have h2:=this.2 h rfl
   simp only[IE.den];omega
  ·rfl
 ·rfl
theorem bf {J:Rho} {a b:IE} (h:(mkNot (eU a b)).den J=true):¬a.den J<b.den J:=fun hh=>by
 rw[bz,dY,decide_eq_true hh]at h;cases h
def Yb (z t:Nat) (j:IE):List X:=(List.range z).map fun k => .cel t k j
theorem Gn (J:Rho) (z t:Nat) (j:IE):X.denL J (Yb z t j)=(List.range z).map fun k=>(J.ct t k (j.den J).toNat).1:=by
 simp only[Yb,X.denL_eq,List.map_map];rfl
theorem Am {J:Rho} {z:Nat} {m:IE} {t j:Nat} (hj:(j:Int)<m.den J):(bD J z m t)[j]? = some ((List.range z).map fun k=>(J.ct t k j).1):=by
 unfold bD
 rw[List.getElem?_map,List.getElem?_range (by omega)]
 rfl
theorem kP {J:Rho} {z:Nat} {m:IE} {t:Nat}:(bD J z m t).length=(m.den J).toNat:=by
 unfold bD;rw[List.length_map,List.length_range]
def TU (Φ:Facts) (e m:IE):List (List X)->Nat->Option (List X)
 | [],_=>none
 | r::es,q=>match red Φ (mkEq e (fC m (.lit q)))with
  | .lit true=>some r
  | _=>TU Φ e m es (q+1)
theorem NF {J:Rho} {Φ:Facts} (hk:Facts.ok J Φ) {e m:IE} {r:List X}:∀{es:List (List X)} {q:Nat},TU Φ e m es q=some r->∃p:Nat,es[p]? = some r/\e.den J=m.den J+((q+p:Nat):Int)
 | [],_,h=>by cases h
 | r'::es,q,h=>by
  simp only[TU]at h
  split at h
  ·rename_i hr
   cases h
   have h1:=bu hk (mkEq e (fC m (.lit q)))
   rw[hr,cZ]at h1
   have h1:(e.den J==(fC m (.lit (q:Int))).den J)=true:=h1.symm
   rw[bK,beq_iff_eq]at h1
   exact⟨0,rfl,h1⟩
  ·obtain⟨p,h1,h2⟩:=NF hk h
   exact⟨p+1,h1,by rw[h2];congr 2;omega⟩
def Fj (i:TI) (h:bg) (Φ:Facts) (x y:X):T X :=
 match x,y with
 | .ptr n az d,.sc (.i _ e)=>match i.arr with
  | some (len,z)=>if lN h n=true then inB Φ e (.lit len) fun _ => .ret (Uf n az d (aB8 Φ e) z len)else(.fail [])
  | none=>(.fail [])
 | .ip cs az d,.sc (.i _ e)=>match i.arr with
  | some (len,z)=>inB Φ e (.lit len) fun _ => .ret (bf7 cs az d (aB8 Φ e) z len)
  | none=>(.fail [])
 | .sl n z off len _,.sc (.i _ e)=>match i.sl with
  | some (_,z')=>if(Nat.beq z' z&&lN h n)=true then inB Φ e (.lit len) fun _ => .ret (Uf n [] off e z len)else(.fail [])
  | none=>(.fail [])
 | .ro z es _,.sc (.i _ e)=>match i.sl with
  | some (_,z')=>if Nat.beq z' z=true then inB Φ e (.lit es.length) fun _=>lL ((rowAt e es).map fun r => .ip r [] 0)else(.fail [])
  | none=>(.fail [])
 | .rl z n l _,.sc (.i _ e)=>match i.sl with
  | some (_,z')=>if Nat.beq z' z=true then inB Φ e n fun Φ=>lL ((l.getF Φ e).map fun r => .ip (ab4 r) [] 0)else(.fail [])
  | none=>(.fail [])
 | .rn z n l ks _,.sc (.i _ e)=>match i.sl with
  | some (_,z')=>if Nat.beq z' z=true then inB Φ e n fun _ => .ret (.ip (sQ l e 0 ks) [] 0)else(.fail [])
  | none=>(.fail [])
 | .tq z m t es _,.sc (.i _ e)=>match i.sl with
  | some (_,z')=>if Nat.beq z' z=true then want Φ (mkNot (eU m (.lit 0))) fun Φ=>(match TU Φ e m es 0 with
   | some r => .ret (.ip r [] 0)
   | none=>inB Φ e m fun _ => .ret (.ip (Yb z t e) [] 0))else(.fail [])
  | none=>(.fail [])
 | _,_=>(.fail [])
theorem gB {J:Rho} {n:IE} {l:RL} {j:Nat} (hj:(j:Int)<n.den J):(aC J n l)[j]? = some (l.row J j):=by
 unfold aC
 rw[List.getElem?_map,List.getElem?_range (by omega)]
 rfl
theorem H6 {J:Rho} {n:IE} {l:Nat} {ks:List Nk} {j:Nat} (hj:(j:Int)<n.den J):(jB J n l ks)[j]? = some (dQ J l 0 ks j):=by
 unfold jB
 rw[List.getElem?_map,List.getElem?_range (by omega)]
 rfl
theorem KO {P:Program} {J:Rho} {ty:TypeId} {h:bg} {Φ:Facts} {x y v:X} (hk:Facts.ok J Φ) (hv:(Fj (fZ P ty) h Φ x y).sel J=some v):fQ P (aV J h) ty (x.den J) (y.den J)=some (v.den J):=by
 unfold Fj at hv
 split at hv
 ·split at hv
  ·rename_i n az d k e len z ha
   split at hv
   ·rename_i ho
    obtain⟨Φ',j,_,he,hj,hv⟩:=jm hk hv
    cases hv
    simp only[IE.den]at hj
    rw[Ie ((NM hk _).trans he) (by omega)]
    have ha':lJ P ty=some (len,z):=ha
    simp only[X.den,Sc.den,fQ,ha',iaP,he,fB ho,Int.toNat_natCast]
    rw[if_pos ⟨trivial,by omega,by omega⟩]
   ·cases hv
  ·cases hv
 ·split at hv
  ·rename_i cs az d k e len z ha
   obtain⟨Φ',j,_,he,hj,hv⟩:=jm hk hv
   cases hv
   simp only[IE.den]at hj
   rw[ah6 ((NM hk _).trans he) (by omega)]
   have ha':lJ P ty=some (len,z):=ha
   simp only[X.den,Sc.den,fQ,ha',iaI,he,Int.toNat_natCast]
   rw[if_pos ⟨by omega,by omega⟩]
  ·cases hv
 ·split at hv
  ·rename_i n z off len own k e ee z' ha
   split at hv
   ·rename_i ho
    simp only[Bool.and_eq_true]at ho
    have hz:=Nat.eq_of_beq_eq_true ho.1
    subst hz
    obtain⟨Φ',j,_,he,hj,hv⟩:=jm hk hv
    cases hv
    simp only[IE.den]at hj
    rw[Ie he (by omega)]
    have ha':jU P ty=some (ee,z'):=ha
    simp only[X.den,Sc.den,fQ,ha',iaS,he,fB ho.2,Int.toNat_natCast,choose]
    rw[if_pos ⟨trivial,trivial,by omega,by omega⟩]
   ·cases hv
  ·cases hv
 ·split at hv
  ·rename_i z es full k e ee z' ha
   split at hv
   ·rename_i ho
    have hz:=Nat.eq_of_beq_eq_true ho
    subst hz
    obtain⟨Φ',j,_,he,hj,hv⟩:=jm hk hv
    obtain⟨r,hr,rfl⟩:=Option.map_eq_some_iff.1 (di hv)
    simp only[IE.den]at hj
    have hrow:=VY (J:=J) he (by omega) hr
    have ha':jU P ty=some (ee,z'):=ha
    simp only[X.den,Sc.den,fQ,ha',iaR,he,Int.toNat_natCast,hrow,iaE,choose]
    rw[if_pos ⟨trivial,by omega⟩]
   ·cases hv
  ·cases hv
 ·split at hv
  ·rename_i z n l full k e ee z' ha
   split at hv
   ·rename_i ho
    have hz:=Nat.eq_of_beq_eq_true ho
    subst hz
    obtain⟨Φ',j,hk',he,hj,hv⟩:=jm hk hv
    obtain⟨r,hr,rfl⟩:=Option.map_eq_some_iff.1 (di hv)
    have hrow:=RL.getF_den (J:=J) hk' hr
    rw[he]at hrow
    have ha':jU P ty=some (ee,z'):=ha
    simp only[X.den,Sc.den,fQ,ha',iaR,he,Int.toNat_natCast,gB hj,iaE,choose,EM,hrow]
    rw[if_pos ⟨trivial,by omega⟩]
   ·cases hv
  ·cases hv
 ·split at hv
  ·rename_i z n l ks full k e ee z' ha
   split at hv
   ·rename_i ho
    have hz:=Nat.eq_of_beq_eq_true ho
    subst hz
    obtain⟨Φ',j,hk',he,hj,hv⟩:=jm hk hv
    cases hv
    have ha':jU P ty=some (ee,z'):=ha
    simp only[X.den,Sc.den,fQ,ha',iaR,he,Int.toNat_natCast,H6 hj,iaE,choose,uZ]
    rw[if_pos ⟨trivial,by omega⟩]
   ·cases hv
  ·cases hv
 ·split at hv
  ·rename_i z m t es full k e _ ee z' ha
   split at hv
   ·rename_i ho
    have hz:=Nat.eq_of_beq_eq_true ho
    subst hz
    obtain⟨Φ1,hk1,h1,hv⟩:=aS hk hv
    have h1:=bf h1
    simp only[IE.den]at h1
    have ha':jU P ty=some (ee,z'):=ha
    split at hv
    ·rename_i r hr
     cases hv
     obtain⟨p,hp,he⟩:=NF hk1 hr
     have hg:(bD J z' m t++X.denE J es)[(e.den J).toNat]? = some (X.denL J r):=by
      rw[List.getElem?_append_right (by rw[kP];omega),kP,show(e.den J).toNat-(m.den J).toNat=p from by omega,X.denE_get,hp];rfl
     simp only[X.den,Sc.den,fQ,ha',iaR,hg,iaE,choose]
     rw[if_pos ⟨trivial,by omega⟩]
    ·obtain⟨Φ',j,hk',he,hj,hv⟩:=jm hk1 hv
     cases hv
     have hg:(bD J z' m t++X.denE J es)[j]? = some ((List.range z').map fun k=>(J.ct t k j).1):=by
      rw[List.getElem?_append_left (by rw[kP];omega)]
      exact Am hj
     simp only[X.den,Sc.den,fQ,ha',iaR,he,Int.toNat_natCast,hg,iaE,choose,Gn]
     rw[if_pos ⟨trivial,by omega⟩]
   ·cases hv
  ·cases hv
 ·cases hv
def xU (i:TI) (h:bg) (f:Nat) (x:X):Option X :=
 match i.rc with
 | some l=>match l[f]? with
  | some (o,_)=>match x with
   | .ptr n az d=>if lN h n=true then some (.ptr n (rE o az) (d+o))else none
   | .ip cs az d=>some (.ip cs (rE o az) (d+o))
   | .ptrv n z j p=>if lN h n=true then some (.ptrv n z j (p+o))else none
   | _=>none
  | none=>none
 | none=>none
theorem FO {P:Program} {J:Rho} {ty:TypeId} {h:bg} {f:Nat} {x v:X} (hv:xU (fZ P ty) h f x=some v):o9 P (aV J h) ty f (x.den J)=some (v.den J):=by
 unfold xU at hv
 split at hv
 ·rename_i l hl
  have hl':uz P ty=some l:=hl
  split at hv
  ·rename_i o z hf
   simp only[o9,hl',hf,faO]
   split at hv
   ·split at hv
    ·rename_i ho
     cases hv
     simp only[X.den,fB ho,if_true,lF]
    ·cases hv
   ·cases hv
    simp only[X.den,lF]
   ·split at hv
    ·rename_i ho
     cases hv
     simp only[X.den,fB ho,if_true,Nat.add_assoc]
    ·cases hv
   ·cases hv
  ·cases hv
 ·cases hv
end Go.Proofs.Xw
namespace Go.Proofs.Xw
open Go Go.Proofs.Aw
theorem ac9 (a b:Nat):Nat.beq a b=(a==b):=by rw[Bool.eq_iff_iff];simp
def Q7 (i:TI) (f:Nat):X->Option X
 | .agg cs=>match i.rc,i.rcA with
  | some l,some bs=>match l[f]?,bs[f]? with
   | some (o,z),some b=>rdX b z cs o
   | _,_=>none
  | _,_=>none
 | _=>none
theorem Q5 {P:Program} {J:Rho} {ty:TypeId} {f:Nat} {x v:X} (hv:Q7 (fZ P ty) f x=some v):fieldN P ty f (x.den J)=some (v.den J):=by
 unfold Q7 at hv
 split at hv
 ·split at hv
  ·rename_i cs l bs hl hb
   have hl':uz P ty=some l:=hl
   have hb':ZT P ty=some bs:=hb
   split at hv
   ·rename_i o z b h1 h2
    simp only[X.den,fieldN,hl',hb',h1,h2,fdO]
    exact vS hv
   ·cases hv
  ·cases hv
 ·cases hv
def UE:TE->IE->IE
 | .lit s,.lit j => .lit (((s[j.toNat]?).getD 0).toNat)
 | t,j => .byt t j
theorem IA (J:Rho) (t:TE) (j:IE):(UE t j).den J=(((t.den J)[(j.den J).toNat]?).getD 0).toNat:=by
 unfold UE;split<;>simp[IE.den,TE.den]
def QX (i:TI) (Φ:Facts) (x y:X):T X :=
 match x,y with
 | .agg cs,.sc (.i _ e)=>match i.arr with
  | some (len,z)=>inB Φ e (.lit len) fun _=>lL (match e with
   | .lit j=>rdX i.arrA z cs (j.toNat*z)
   | e=>V5 i.arrA z cs (Fh e z len [] 0) (0+(len-1)*z))
  | none=>(.fail [])
 | .sc (.s t),.sc (.i _ e)=>if i.str=true then inB Φ e (uH t) fun _ => .ret (.sc (.i .u8 (UE t e)))else(.fail [])
 | _,_=>(.fail [])
theorem QW {P:Program} {J:Rho} {ty:TypeId} {Φ:Facts} {x y v:X} (hk:Facts.ok J Φ) (hv:(QX (fZ P ty) Φ x y).sel J=some v):Ba P ty (x.den J) (y.den J)=some (v.den J):=by
 unfold QX at hv
 split at hv
 ·split at hv
  ·rename_i cs k e len z ha
   obtain⟨Φ',j,_,he,hj,hv⟩:=jm hk hv
   have hv:=di hv
   simp only[IE.den]at hj
   have ha':lJ P ty=some (len,z):=ha
   simp only[X.den,Sc.den,Ba,ha',he,Int.toNat_natCast]
   rw[if_pos ⟨by omega,by omega⟩]
   split at hv
   ·rename_i jj
    simp only[IE.den]at he
    have:=vS (J:=J) hv
    rw[he,Int.toNat_natCast]at this
    exact this
   ·have:=yY (J:=J) hv
    rw[sH he (by omega),choose,Nat.zero_add]at this
    exact this
  ·cases hv
 ·split at hv
  ·rename_i t k e hs
   have hs':CP P ty=true:=hs
   obtain⟨Φ',j,_,he,hj,hv⟩:=jm hk hv
   cases hv
   rw[l9]at hj
   simp only[X.den,Sc.den,Ba,hs',he,Int.toNat_natCast,IA]
   rw[if_pos ⟨trivial,by omega⟩]
   have hlt:j<(t.den J).size:=by omega
   have:(t.den J)[j]? = some ((t.den J)[j]'hlt):=getElem?_pos (t.den J) j hlt
   rw[this];rfl
  ·cases hv
 ·cases hv
def ak5 {α:Type} (e:IE) (k:Facts->Nat->T α):Nat->Facts->T α
 | 0,Φ=>want Φ (mkEq e (.lit 0)) fun Φ=>k Φ 0
 | m+1,Φ=>part Φ (mkEq e (.lit (m+1:Nat))) (fun Φ=>k Φ (m+1)) (fun Φ=>ak5 e k m Φ)
theorem Hu {α:Type} {J:Rho} {e:IE} {k:Facts->Nat->T α} {a:α}:∀(n:Nat) {Φ:Facts},Facts.ok J Φ->(ak5 e k n Φ).sel J=some a->∃Φ' j,Facts.ok J Φ'/\j<=n/\e.den J=(j:Nat)/\(k Φ' j).sel J=some a
 | 0,Φ,hk,h=>by
  obtain⟨Φ',hk',h1,h⟩:=aS hk h
  rw[cZ,beq_iff_eq]at h1
  exact⟨Φ',0,hk',Nat.le_refl _,h1,h⟩
 | m+1,Φ,hk,h=>by
  obtain⟨Φ',hk',⟨h1,h⟩ | ⟨_,h⟩⟩:=MZ hk h
  ·rw[cZ,beq_iff_eq]at h1
   exact⟨Φ',m+1,hk',Nat.le_refl _,h1,h⟩
  ·obtain⟨Φ'',j,h2,h3,h4,h5⟩:=Hu m hk' h
   exact⟨Φ'',j,h2,by omega,h4,h5⟩
def Cj {α:Type} (e:IE) (n:Nat) (Φ:Facts) (k:Facts->Nat->T α):T α :=
 match e with
 | .lit j=>if decide (0<=j)&&Nat.ble j.toNat n then k Φ j.toNat else(.fail [])
 | e=>ak5 e k n Φ
theorem oC {α:Type} {J:Rho} {e:IE} {k:Facts->Nat->T α} {a:α} {n:Nat} {Φ:Facts} (hk:Facts.ok J Φ) (h:(Cj e n Φ k).sel J=some a):∃Φ' j,Facts.ok J Φ'/\j<=n/\e.den J=(j:Nat)/\(k Φ' j).sel J=some a:=by
 unfold Cj at h
 split at h
 ·split at h
  ·rename_i j hc
   simp only[Bool.and_eq_true,decide_eq_true_eq,Nat.ble_eq]at hc
   exact⟨Φ,j.toNat,hk,hc.2,by simp only[IE.den];omega,h⟩
  ·cases h
 ·exact Hu n hk h
def Gt:Option X->IE->Option IE
 | none,d=>some d
 | some (.sc (.i _ e)),_=>some e
 | _,_=>none
theorem iy {J:Rho} {x:Option X} {d e:IE} {dn:Nat} (h:Gt x d=some e) (hd:d.den J=dn) {j:Nat} (he:e.den J=j):BC dn (x.map (X.den J))=some j:=by
 unfold Gt at h
 split at h
 ·cases h
  simp only[Option.map_none,BC,Option.some.injEq];omega
 ·cases h
  simp only[Option.map_some,X.den,Sc.den,BC,he]
  rw[if_pos (by omega),Int.toNat_natCast]
 ·cases h
def GN (i:TI):X->IE
 | .ro _ es _ => .lit es.length
 | .rl _ n _ _=>n
 | .sl _ _ _ len _ => .lit len
 | .ptr _ _ _=>match i.arr with | some (len,_) => .lit len | none => .lit 0
 | .sc (.s t)=>uH t
 | _ => .lit 0
def bB4 (n:Nm) (z l k:Nat):List (BE×Nat)->Nat->Option X
 | [],d=>some (.sl n z (d+l*z) k false)
 | _,_=>none
def slX (i:TI) (h:bg) (Φ:Facts) (x:X) (lo hi:IE) (hn:Bool):T X :=
 match x with
 | .ro z es full=>match i.sl with
  | some (_,z')=>if Nat.beq z' z=true then Cj hi es.length Φ fun Φ hh=>Cj lo hh Φ fun _ l => .ret (.ro z ((es.take hh).drop l) (full&&Nat.beq hh es.length))else(.fail [])
  | none=>(.fail [])
 | .rl z n l full=>match i.sl with
  | some (_,z')=>if Nat.beq z' z=true then
    want Φ (mkNot (eU lo (.lit 0))) fun Φ=>want Φ (mkNot (eU (oV hi lo) (.lit 0))) fun Φ=>want Φ (mkNot (eU n hi)) fun _ =>
     .ret (.rl z (oV hi lo) (match lo with | .lit 0=>l | lo => .drop lo l) (full&&hn))
   else(.fail [])
  | none=>(.fail [])
 | .sl n z off len own=>match i.sl with
  | some (_,z')=>if(Nat.beq z' z&&lN h n)=true then Cj hi len Φ fun Φ hh=>Cj lo hh Φ fun _ l => .ret (.sl n z (off+l*z) (hh-l) own)else(.fail [])
  | none=>(.fail [])
 | .ptr n az d=>match i.arr with
  | some (len,z)=>if lN h n=true then Cj hi len Φ fun Φ hh=>Cj lo hh Φ fun _ l=>lL (bB4 n z l (hh-l) az d)else(.fail [])
  | none=>(.fail [])
 | .sc (.s t)=>if i.str=true then
   want Φ (mkNot (eU lo (.lit 0))) fun Φ=>want Φ (mkNot (eU hi lo)) fun Φ=>want Φ (mkNot (eU (uH t) hi)) fun _ =>
    .ret (.sc (.s (if(lo.beq (.lit 0)&&hi.beq (uH t))=true then t else .sub t lo hi)))
  else(.fail [])
 | .k (.slice none 0 0)=>match i.sl with
  | some _=>want Φ (mkEq lo (.lit 0)) fun Φ=>want Φ (mkEq hi (.lit 0)) fun _ => .ret (.k (.slice none 0 0))
  | none=>(.fail [])
 | _=>(.fail [])
theorem ZH {J:Rho} {n hi lo:IE} {l:RL} {a b:Nat} (h1:lo.den J=a) (h2:hi.den J=b) (h3:(b:Int)<=n.den J) (hab:a<=b) (m:RL) (hm:∀j:Nat,m.row J j=l.row J ((j+a:Nat):Int)) :
  aC J (oV hi lo) m=((aC J n l).take b).drop a:=by
 unfold aC
 apply List.ext_getElem?
 intro j
 rw[gX,h1,h2,List.getElem?_drop,List.getElem?_take,List.getElem?_map,List.getElem?_map]
 by_cases hj:j<b-a
 ·rw[List.getElem?_range (by omega),if_pos (by omega),List.getElem?_range (by omega)]
  simp only[Option.map_some,Option.some.injEq]
  rw[hm j,Nat.add_comm]
 ·rw[List.getElem?_eq_none (by simp;omega)]
  by_cases hj2:a+j<b
  ·omega
  ·rw[if_neg hj2];rfl
theorem DC {C:Ctx} {z:Nat} {es:List (List AV)} {f f':Bool} (hf:f'=true->f=true) {u:Value} (h:Conc C (.ro z es f) u):Conc C (.ro z es f') u:=by
 obtain⟨A,cap,h1,h2,h3,h4⟩:=iw.1 h
 exact iw.2 ⟨A,cap,h1,h2,fun hh=>h3 (hf hh),h4⟩
def LeA (a b:AV):Prop:=∀(C:Ctx) (u:Value),Conc C b u->Conc C a u
theorem LeA.refl (a:AV):LeA a a:=fun _ _ h=>h
theorem LeA.top (b:AV):LeA .top b:=fun _ _ _=>by simp only[Conc]
theorem LeA.of_eq {a b:AV} (h:a=b):LeA a b:=by subst h;exact LeA.refl a
theorem ax9 {P:Program} {J:Rho} {ty:TypeId} {h:bg} {Φ:Facts} {x v:X} {lo hi:Option X} {l r:IE} (hk:Facts.ok J Φ) (hl:Gt lo (.lit 0)=some l) (hr:Gt hi (GN (fZ P ty) x)=some r)
  (hv:(slX (fZ P ty) h Φ x l r hi.isNone).sel J=some v):∃w,qp P (aV J h) ty (x.den J) (lo.map (X.den J)) (hi.map (X.den J)) none=some w/\LeA (v.den J) w:=by
 unfold slX at hv
 simp only[qp]
 split at hv
 ·split at hv
  ·rename_i z es full _ ee z' ha
   have ha':jU P ty=some (ee,z'):=ha
   split at hv
   ·rename_i hz
    have hz:=Nat.eq_of_beq_eq_true hz
    subst hz
    obtain⟨Φ1,b,hk1,hb,hb2,hv⟩:=oC hk hv
    obtain⟨Φ2,a,hk2,ha1,ha2,hv⟩:=oC hk1 hv
    cases hv
    have e1:=iy (J:=J) hl (dn:=0) (by simp[IE.den]) ha2
    have e2:=iy (J:=J) hr (dn:=xx P ty ((X.ro z' es full).den J)) (by simp[IE.den,GN,X.den,xx,X.denE_eq]) hb2
    rw[e1,e2]
    have hlen:(X.denE J es).length=es.length:=by simp[X.denE_eq]
    simp only[slN,X.den,ha',hlen]
    rw[if_pos ⟨trivial,ha1,hb⟩]
    refine⟨_,rfl,LeA.of_eq ?_⟩
    have hbe:(Nat.beq b es.length)=(b==es.length):=ac9 _ _
    simp only[X.denE_eq,List.map_drop,List.map_take,hbe]
   ·cases hv
  ·cases hv
 ·split at hv
  ·rename_i z n rl full _ ee z' ha
   have ha':jU P ty=some (ee,z'):=ha
   split at hv
   ·rename_i hz
    have hz:=Nat.eq_of_beq_eq_true hz
    subst hz
    obtain⟨Φ1,hk1,c1,hv⟩:=aS hk hv
    obtain⟨Φ2,hk2,c2,hv⟩:=aS hk1 hv
    obtain⟨Φ3,hk3,c3,hv⟩:=aS hk2 hv
    cases hv
    have c1:=bf c1
    have c2:=bf c2
    have c3:=bf c3
    rw[gX]at c2
    simp only[IE.den]at c1 c2
    obtain⟨a,ha2⟩:∃a:Nat,l.den J=a:=⟨(l.den J).toNat,by omega⟩
    obtain⟨b,hb2⟩:∃b:Nat,r.den J=b:=⟨(r.den J).toNat,by omega⟩
    have hlen:(aC J n rl).length=(n.den J).toNat:=by simp[aC]
    have e1:=iy (J:=J) hl (dn:=0) (by simp[IE.den]) ha2
    have e2:=iy (J:=J) hr (dn:=xx P ty ((X.rl z' n rl full).den J)) (by simp only[GN,X.den,xx,hlen];omega) hb2
    rw[e1,e2]
    simp only[slN,X.den,ha',hlen]
    rw[if_pos ⟨trivial,by omega,by omega⟩]
    refine⟨_,rfl,?_⟩
    rw[ZH (n:=n) (l:=rl) ha2 hb2 (by omega) (by omega) _ (fun j => ?_)]
    ·intro C u hu
     refine DC (fun hf => ?_) hu
     simp only[Bool.and_eq_true]at hf ⊢
     refine⟨hf.1,?_⟩
     cases hi with
     | some y=>simp at hf
     | none =>
      simp only[Gt,GN,Option.some.injEq]at hr
      subst hr
      simp only[beq_iff_eq];omega
    ·split
     ·simp only[IE.den]at ha2
      rw[show j+a=j from by omega]
     ·simp only[RL.row,ha2]
      congr 1
   ·cases hv
  ·cases hv
 ·split at hv
  ·rename_i n z off len own _ ee z' ha
   have ha':jU P ty=some (ee,z'):=ha
   split at hv
   ·rename_i hz
    simp only[Bool.and_eq_true]at hz
    have hz1:=Nat.eq_of_beq_eq_true hz.1
    subst hz1
    obtain⟨Φ1,b,hk1,hb,hb2,hv⟩:=oC hk hv
    obtain⟨Φ2,a,hk2,ha1,ha2,hv⟩:=oC hk1 hv
    cases hv
    have e1:=iy (J:=J) hl (dn:=0) (by simp[IE.den]) ha2
    have e2:=iy (J:=J) hr (dn:=xx P ty ((X.sl n z' off len own).den J)) (by simp[IE.den,GN,X.den,xx]) hb2
    rw[e1,e2]
    simp only[slN,X.den,ha']
    rw[if_pos ⟨trivial,fB hz.2,ha1,hb⟩]
    exact⟨_,rfl,LeA.refl _⟩
   ·cases hv
  ·cases hv
 ·split at hv
  ·rename_i n az d _ len z ha
   have ha':lJ P ty=some (len,z):=ha
   split at hv
   ·rename_i hz
    obtain⟨Φ1,b,hk1,hb,hb2,hv⟩:=oC hk hv
    obtain⟨Φ2,a,hk2,ha1,ha2,hv⟩:=oC hk1 hv
    have hv:=di hv
    unfold bB4 at hv
    split at hv
    ·cases hv
     have e1:=iy (J:=J) hl (dn:=0) (by simp[IE.den]) ha2
     have e2:=iy (J:=J) hr (dn:=xx P ty ((X.ptr n [] d).den J)) (by simp[IE.den,GN,X.den,xx,ha',ha]) hb2
     rw[e1,e2]
     simp only[slN,X.den,ha',choose]
     rw[if_pos ⟨fB hz,ha1,hb⟩]
     exact⟨_,rfl,LeA.refl _⟩
    ·cases hv
   ·cases hv
  ·cases hv
 ·split at hv
  ·rename_i t hs
   have hs':CP P ty=true:=hs
   obtain⟨Φ1,hk1,c1,hv⟩:=aS hk hv
   obtain⟨Φ2,hk2,c2,hv⟩:=aS hk1 hv
   obtain⟨Φ3,hk3,c3,hv⟩:=aS hk2 hv
   cases hv
   have c1:=bf c1
   have c2:=bf c2
   have c3:=bf c3
   rw[l9]at c3
   simp only[IE.den]at c1
   obtain⟨a,ha2⟩:∃a:Nat,l.den J=a:=⟨(l.den J).toNat,by omega⟩
   obtain⟨b,hb2⟩:∃b:Nat,r.den J=b:=⟨(r.den J).toNat,by omega⟩
   have e1:=iy (J:=J) hl (dn:=0) (by simp[IE.den]) ha2
   have e2:=iy (J:=J) hr (dn:=xx P ty ((X.sc (.s t)).den J)) (by simp only[GN,X.den,Sc.den,xx,l9]) hb2
   rw[e1,e2]
   simp only[slN,X.den,Sc.den,hs']
   rw[if_pos ⟨trivial,by omega,by omega⟩]
   refine⟨_,rfl,LeA.of_eq ?_⟩
   split
   ·rename_i hc
    simp only[Bool.and_eq_true]at hc
    have h1:=IE.beq_eq _ _ hc.1
    have h2:=IE.beq_eq _ _ hc.2
    subst h1 h2
    rw[l9]at hb2
    simp only[IE.den]at ha2
    have ha0:a=0:=by omega
    have hbs:b=(t.den J).size:=by omega
    rw[ha0,hbs,ByteArray.extract_zero_size]
   ·simp only[TE.den,ha2,hb2,Int.toNat_natCast]
  ·cases hv
 ·split at hv
  ·rename_i ez ha
   have ha':jU P ty=some ez:=ha
   obtain⟨Φ1,hk1,c1,hv⟩:=aS hk hv
   obtain⟨Φ2,hk2,c2,hv⟩:=aS hk1 hv
   cases hv
   rw[cZ]at c1 c2
   have c1:l.den J=(0:Nat):=by simpa [IE.den]using c1
   have c2:r.den J=(0:Nat):=by simpa [IE.den]using c2
   have e1:=iy (J:=J) hl (dn:=0) (by simp[IE.den]) c1
   have e2:=iy (J:=J) hr (dn:=xx P ty ((X.k (.slice none 0 0)).den J)) (by simp[GN,X.den,xx,IE.den]) c2
   rw[e1,e2]
   simp only[slN,X.den,ha']
   exact⟨_,rfl,LeA.refl _⟩
  ·cases hv
 ·cases hv
def ae8:X->Option Nat
 | .sc (.i _ (.lit n))=>if 0<=n then some n.toNat else none
 | _=>none
theorem E8 {J:Rho} {x:X} {n:Nat} (h:ae8 x=some n):BC 0 (some (x.den J))=some n:=by
 unfold ae8 at h
 split at h
 ·split at h
  ·rename_i h0
   cases h
   simp only[X.den,Sc.den,IE.den,BC]
   rw[if_pos h0]
  ·cases h
 ·cases h
def aX6 (i:TI) (h:bg) (x:X) (lo:Option X) (hi mx:X):Option X :=
 match(match lo with | none=>some 0 | some v=>ae8 v),ae8 hi,ae8 mx with
 | some l,some hh,some m=>match x with
  | .ro z es _=>match i.sl with
   | some (_,z')=>if(Nat.beq z' z&&(Nat.ble l hh&&(Nat.ble hh m&&Nat.ble m es.length)))=true then some (.ro z ((es.take hh).drop l) (Nat.beq m hh))else none
   | none=>none
  | .sl n z _ len _=>match i.sl with
   | some (_,z')=>if(Nat.beq z' z&&(lN h n&&(Nat.beq hh l&&(Nat.beq m l&&Nat.ble l len))))=true then some (.ro z [] true)else none
   | none=>none
  | _=>none
 | _,_,_=>none
theorem Zt {P:Program} {J:Rho} {ty:TypeId} {h:bg} {x hi mx v:X} {lo:Option X} (hv:aX6 (fZ P ty) h x lo hi mx=some v):qp P (aV J h) ty (x.den J) (lo.map (X.den J)) (some (hi.den J)) (some (mx.den J))=some (v.den J):=by
 unfold aX6 at hv
 split at hv
 ·rename_i l hh m h1 h2 h3
  have e1:BC 0 (lo.map (X.den J))=some l:=by
   cases lo with
   | none=>cases h1;rfl
   | some w=>exact E8 h1
  have e2:=E8 (J:=J) h2
  have e3:=E8 (J:=J) h3
  simp only[qp,e1,e2,e3,ay1]
  split at hv
  ·rename_i z es f
   split at hv
   ·rename_i ee z' ha
    have ha':jU P ty=some (ee,z'):=ha
    split at hv
    ·rename_i hc
     cases hv
     simp only[Bool.and_eq_true,Nat.ble_eq]at hc
     obtain⟨c1,c2,c3,c4⟩:=hc
     have c1:=Nat.eq_of_beq_eq_true c1
     simp only[X.den,ha']
     have hlen:(X.denE J es).length=es.length:=by simp[X.denE_eq]
     rw[if_pos ⟨c1,c2,c3,by rw[hlen];exact c4⟩]
     have:Nat.beq m hh=(m==hh):=by rw[Bool.eq_iff_iff];simp
     rw[this]
     simp[X.denE_eq,List.map_take,List.map_drop]
    ·cases hv
   ·cases hv
  ·rename_i n z off len own
   split at hv
   ·rename_i ee z' ha
    have ha':jU P ty=some (ee,z'):=ha
    split at hv
    ·rename_i hc
     cases hv
     simp only[Bool.and_eq_true,Nat.ble_eq]at hc
     obtain⟨c1,c2,c3,c4,c5⟩:=hc
     simp only[X.den,ha']
     rw[if_pos ⟨Nat.eq_of_beq_eq_true c1,fB c2,Nat.eq_of_beq_eq_true c3,Nat.eq_of_beq_eq_true c4,c5⟩]
     rfl
    ·cases hv
   ·cases hv
  ·cases hv
 ·cases hv
end Go.Proofs.Xw
namespace Go.Proofs.Xw
open Go Go.Proofs.Aw
def OD (k k':IntKind) (x:X):T X:=if A7 k k'=true then .ret x else(.fail [])
def bf8 (op:BinOp) (Φ:Facts) (k:IntKind) (a:IE) (k':IntKind) (b:IE):T X :=
 match op with
 | .add=>OD k k' (.sc (.i k (rP .add k a b)))
 | .sub=>OD k k' (.sc (.i k (rP .sub k a b)))
 | .mul=>OD k k' (.sc (.i k (rP .mul k a b)))
 | .and=>OD k k' (.sc (.i k (rP .and k a b)))
 | .or=>OD k k' (.sc (.i k (rP .or k a b)))
 | .xor=>OD k k' (.sc (.i k (rP .xor k a b)))
 | .andNot=>OD k k' (.sc (.i k (rP .andNot k a b)))
 | .lss=>OD k k' (.sc (.b (eU a b)))
 | .leq=>OD k k' (.sc (.b (mkNot (eU b a))))
 | .gtr=>OD k k' (.sc (.b (eU b a)))
 | .geq=>OD k k' (.sc (.b (mkNot (eU a b))))
 | .eql=>OD k k' (.sc (.b (mkEq a b)))
 | .neq=>OD k k' (.sc (.b (mkNot (mkEq a b))))
 | .quo=>want Φ (mkNot (mkEq b (.lit 0))) fun _=>OD k k' (.sc (.i k (rP .quo k a b)))
 | .rem=>want Φ (mkNot (mkEq b (.lit 0))) fun _=>OD k k' (.sc (.i k (rP .rem k a b)))
 | .shl=>want Φ (mkNot (eU b (.lit 0))) fun _ => .ret (.sc (.i k (rP .shl k a b)))
 | .shr=>want Φ (mkNot (eU b (.lit 0))) fun _ => .ret (.sc (.i k (rP .shr k a b)))
theorem JS {J:Rho} {k k':IntKind} {x v:X} (h:(OD k k' x).sel J=some v):k=k'/\v=x:=by
 unfold OD at h
 split at h
 ·rename_i hk;cases h;exact⟨lC hk,rfl⟩
 ·cases h
theorem bl1 {a b:Int}:(!decide (a<b))=decide (b<=a):=by
 rw[Bool.eq_iff_iff];simp
theorem ah7 {J:Rho} {op:BinOp} {Φ:Facts} {k k':IntKind} {a b:IE} {v:X} (hk:Facts.ok J Φ) (h:(bf8 op Φ k a k' b).sel J=some v):(rY op k (a.den J) k' (b.den J)).map AV.sc=some (v.den J):=by
 cases op<;>simp only[bf8]at h
 case quo =>
  obtain⟨_,_,h1,h⟩:=aS hk h
  obtain⟨rfl,rfl⟩:=JS h
  rw[bz,cZ]at h1
  have hne:b.den J≠0:=by simpa [IE.den]using h1
  simp[rY,hne,X.den,Sc.den,jE,IOp.den]
 case rem =>
  obtain⟨_,_,h1,h⟩:=aS hk h
  obtain⟨rfl,rfl⟩:=JS h
  rw[bz,cZ]at h1
  have hne:b.den J≠0:=by simpa [IE.den]using h1
  simp[rY,hne,X.den,Sc.den,jE,IOp.den]
 case shl =>
  obtain⟨_,_,h1,h⟩:=aS hk h
  cases h
  have h1:=bf h1
  simp only[IE.den]at h1
  have hne:0<=b.den J:=by omega
  simp[rY,hne,X.den,Sc.den,jE,IOp.den]
 case shr =>
  obtain⟨_,_,h1,h⟩:=aS hk h
  cases h
  have h1:=bf h1
  simp only[IE.den]at h1
  have hne:0<=b.den J:=by omega
  simp[rY,hne,X.den,Sc.den,jE,IOp.den]
 all_goals
  obtain⟨rfl,rfl⟩:=JS h
  simp only[rY,if_true,Option.map_some,X.den,Sc.den,jE,IOp.den,dY,bz,cZ,bl1]
def aX5 (op:BinOp) (a b:TE):Option X :=
 match op with
 | .eql=>some (.sc (.b (BV a b)))
 | .neq=>some (.sc (.b (mkNot (BV a b))))
 | .lss=>some (.sc (.b (.slt a b)))
 | .leq=>some (.sc (.b (AU (.slt a b) (BV a b))))
 | .gtr=>some (.sc (.b (mkNot (AU (.slt a b) (BV a b)))))
 | .geq=>some (.sc (.b (mkNot (.slt a b))))
 | _=>none
theorem Zg {J:Rho} {op:BinOp} {a b:TE} {v:X} (h:aX5 op a b=some v):(Eg op (a.den J) (b.den J)).map AV.sc=some (v.den J):=by
 cases op<;>simp only[aX5,Option.some.injEq,reduceCtorEq]at h<;>subst h<;>simp only[Eg,Option.map_some,X.den,Sc.den,AQ,bz,jD,BE.den]
def CV:List Nat->List X->List X->Option BE
 | [],[],[]=>some (.lit true)
 | k::ks,a::az,b::bs =>
  match k,a,b with
  | 0,.sc (.b x),.sc (.b y)=>(CV ks az bs).map fun r=>mkAnd (Iz x y) r
  | 1,.sc (.i i x),.sc (.i j y)=>if A7 i j=true then(CV ks az bs).map fun r=>mkAnd (mkEq x y) r else none
  | 2,.sc (.s x),.sc (.s y)=>(CV ks az bs).map fun r=>mkAnd (BV x y) r
  | _,_,_=>none
 | _,_,_=>none
theorem uU {J:Rho}:∀{l:List Nat} {xs ys:List X} {e:BE},CV l xs ys=some e->aJ l (X.denL J xs) (X.denL J ys)=some (e.den J)
 | [],[],[],e,h=>by simp only[CV,Option.some.injEq]at h;subst h;rfl
 | k::ks,a::az,b::bs,e,h=>by
  simp only[CV]at h
  split at h
  ·obtain⟨r,hr,rfl⟩:=Option.map_eq_some_iff.1 h
   simp only[X.denL,X.den,Sc.den,aJ,uU hr,Option.map_some,df,wo]
  ·split at h
   ·rename_i hk
    obtain⟨r,hr,rfl⟩:=Option.map_eq_some_iff.1 h
    have hk:=lC hk
    simp only[X.denL,X.den,Sc.den,aJ,uU hr,Option.map_some,df,cZ,hk,if_true]
   ·cases h
  ·obtain⟨r,hr,rfl⟩:=Option.map_eq_some_iff.1 h
   simp only[X.denL,X.den,Sc.den,aJ,uU hr,Option.map_some,df,AQ]
  ·cases h
 | [],[],_::_,_,h=>by simp[CV]at h
 | [],_::_,_,_,h=>by simp[CV]at h
 | _::_,[],_,_,h=>by simp[CV]at h
 | _::_,_::_,[],_,h=>by simp[CV]at h
def bm9 (e:IE):BE:=mkAnd (eU (.lit (-9007199254740992)) e) (eU e (.lit 9007199254740992))
theorem aK8 {J:Rho} {e:IE} (h:(bm9 e).den J=true):(e.den J).natAbs<2 ^ 53:=by
 unfold bm9 at h
 rw[df,dY,dY,Bool.and_eq_true]at h
 have h1:=of_decide_eq_true h.1
 have h2:=of_decide_eq_true h.2
 simp only[IE.den]at h1 h2
 omega
def wants (Φ:Facts) (k:T X):List IE->T X
 | []=>k
 | e::l=>want Φ (bm9 e) fun _=>wants Φ k l
theorem dK {J:Rho} {Φ:Facts} {k:T X} {v:X} (hk:Facts.ok J Φ):∀{l:List IE},(wants Φ k l).sel J=some v->(∀e∈l,(e.den J).natAbs<2 ^ 53)/\k.sel J=some v
 | [],h=>⟨(fun _ he=>by cases he),h⟩
 | e::l,h=>by
  obtain⟨_,_,h1,h2⟩:=aS hk h
  obtain⟨g1,g2⟩:=dK hk h2
  exact⟨fun d hd=>by
   rcases List.mem_cons.1 hd with rfl | hd
   ·exact aK8 h1
   ·exact g1 d hd,g2⟩
structure Fl where
 n:IE
 z:BE
noncomputable def Fl.den (J:Rho) (a:Fl):Nat:=fv (a.n.den J) (a.z.den J)
theorem U3 {n:Int} {a b:Bool} (h:n=0->a=b):fv n a=fv n b:=by
 by_cases h0:n=0
 ·rw[h h0]
 ·simp only[fv,gu,h0,if_false]
def Fl.add (a b:Fl):Fl:=⟨fC a.n b.n,mkAnd (mkAnd a.z b.z) (mkEq a.n (.lit 0))⟩
def Fl.sub (a b:Fl):Fl:=⟨oV a.n b.n,mkAnd (mkAnd a.z (mkNot b.z)) (mkEq a.n (.lit 0))⟩
def sgE (n:IE) (z:BE):BE:=jg (mkEq n (.lit 0)) z (eU n (.lit 0))
theorem ay4 (J:Rho) (n:IE) (z:BE):(sgE n z).den J=gu (n.den J) (z.den J):=by
 unfold sgE gu
 rw[dU,cZ,dY]
 simp only[IE.den,beq_iff_eq]
 by_cases h:n.den J=0
 ·simp[h]
 ·rw[if_neg h,if_neg h];rfl
def aT5 (a b:BE):BE:=mkNot (Iz a b)
theorem YM (J:Rho) (a b:BE):(aT5 a b).den J=(a.den J ^^ b.den J):=by
 unfold aT5
 rw[bz,wo]
 cases a.den J<;>cases b.den J<;>rfl
def Fl.mul (a b:Fl):Fl:=⟨zi a.n b.n,aT5 (sgE a.n a.z) (sgE b.n b.z)⟩
section
variable {J:Rho} {a b:Fl}
theorem Fl.add_den (ha:(a.n.den J).natAbs<2 ^ 53) (hb:(b.n.den J).natAbs<2 ^ 53) (hs:((a.add b).n.den J).natAbs<2 ^ 53):Ieee.double.add (a.den J) (b.den J)=some ((a.add b).den J):=by
 simp only[Fl.add,bK]at hs
 simp only[Fl.den,Fl.add,bK,df,cZ,IE.den]
 rw[cC5 ha hb hs]
 congr 1
 refine U3 fun h0 => ?_
 unfold gu
 by_cases h1:a.n.den J=0
 ·rw[if_pos h1,if_pos (by omega)];simp[h1]
 ·rw[if_neg h1,if_neg (by omega)]
  have:(a.n.den J==0)=false:=by simpa using h1
  rw[this,Bool.and_false]
  by_cases h2:a.n.den J<0
  ·rw[decide_eq_false (show ¬b.n.den J<0 by omega),Bool.and_false]
  ·rw[decide_eq_false h2,Bool.false_and]
theorem Fl.sub_den (ha:(a.n.den J).natAbs<2 ^ 53) (hb:(b.n.den J).natAbs<2 ^ 53) (hs:((a.sub b).n.den J).natAbs<2 ^ 53):Ieee.double.sub (a.den J) (b.den J)=some ((a.sub b).den J):=by
 simp only[Fl.sub,gX]at hs
 simp only[Fl.den,Fl.sub,gX,df,bz,cZ,IE.den]
 rw[cB9 ha hb hs]
 congr 1
 refine U3 fun h0 => ?_
 unfold gu
 by_cases h1:a.n.den J=0
 ·rw[if_pos h1,if_pos (by omega)];simp[h1]
 ·rw[if_neg h1,if_neg (by omega)]
  have:(a.n.den J==0)=false:=by simpa using h1
  rw[this,Bool.and_false]
  by_cases h2:a.n.den J<0
  ·rw[decide_eq_true (show b.n.den J<0 by omega)];simp
  ·rw[decide_eq_false h2,Bool.false_and]
theorem Fl.mul_den (ha:(a.n.den J).natAbs<2 ^ 53) (hb:(b.n.den J).natAbs<2 ^ 53) (hs:((a.mul b).n.den J).natAbs<2 ^ 53):Ieee.double.mul (a.den J) (b.den J)=some ((a.mul b).den J):=by
 simp only[Fl.mul,oG]at hs
 simp only[Fl.den,Fl.mul,oG,YM,ay4]
 exact cC4 ha hb hs
theorem Fl.ord_den (ha:(a.n.den J).natAbs<2 ^ 53) (hb:(b.n.den J).natAbs<2 ^ 53):Ieee.double.order (a.den J) (b.den J)=some (compare (a.n.den J) (b.n.den J)):=cC3 ha hb
end
theorem cmp_lt (n m:Int):(some (compare n m)==some Ordering.lt)=decide (n<m):=by
 by_cases h:n<m
 ·simp[compare,compareOfLessAndEq,h]
 ·by_cases h2:n=m<;>simp[compare,compareOfLessAndEq,h,h2]
theorem RF (n m:Int):(some (compare n m)==some Ordering.gt)=decide (m<n):=by
 by_cases h:n<m
 ·simp[compare,compareOfLessAndEq,h];omega
 ·by_cases h2:n=m
  ·simp[compare,compareOfLessAndEq,h2]
  ·simp[compare,compareOfLessAndEq,h,h2];omega
theorem cmp_eq (n m:Int):(some (compare n m)==some Ordering.eq)=(n==m):=by
 by_cases h:n<m
 ·simp[compare,compareOfLessAndEq,h];omega
 ·by_cases h2:n=m<;>simp[compare,compareOfLessAndEq,h,h2]
def bi6 (op:BinOp) (Φ:Facts) (a b:Fl):T X :=
 match op with
 | .add=>wants Φ (.ret (.sc (.f (a.add b).n (a.add b).z))) [a.n,b.n,(a.add b).n]
 | .sub=>wants Φ (.ret (.sc (.f (a.sub b).n (a.sub b).z))) [a.n,b.n,(a.sub b).n]
 | .mul=>wants Φ (.ret (.sc (.f (a.mul b).n (a.mul b).z))) [a.n,b.n,(a.mul b).n]
 | .eql=>wants Φ (.ret (.sc (.b (mkEq a.n b.n)))) [a.n,b.n]
 | .neq=>wants Φ (.ret (.sc (.b (mkNot (mkEq a.n b.n))))) [a.n,b.n]
 | .lss=>wants Φ (.ret (.sc (.b (eU a.n b.n)))) [a.n,b.n]
 | .leq=>wants Φ (.ret (.sc (.b (mkNot (eU b.n a.n))))) [a.n,b.n]
 | .gtr=>wants Φ (.ret (.sc (.b (eU b.n a.n)))) [a.n,b.n]
 | .geq=>wants Φ (.ret (.sc (.b (mkNot (eU a.n b.n))))) [a.n,b.n]
 | _ => .fail ["float"]
theorem bd6 (n m:Int):(decide (n<m)||n==m) = !decide (m<n):=by
 rw[Bool.eq_iff_iff];simp;omega
theorem bi0 (n m:Int):(decide (m<n)||n==m) = !decide (n<m):=by
 rw[Bool.eq_iff_iff];simp;omega
theorem aj6 {J:Rho} {op:BinOp} {Φ:Facts} {a b:Fl} {v:X} (hk:Facts.ok J Φ) (h:(bi6 op Φ a b).sel J=some v):(fJ op (a.den J) (b.den J)).map AV.sc=some (v.den J):=by
 cases op<;>simp only[bi6]at h
 case add =>
  obtain⟨g,h⟩:=dK hk h
  cases h
  simp only[fJ,Fl.add_den (a:=a) (b:=b) (g _ (by simp)) (g _ (by simp)) (g _ (by simp))];rfl
 case sub =>
  obtain⟨g,h⟩:=dK hk h
  cases h
  simp only[fJ,Fl.sub_den (a:=a) (b:=b) (g _ (by simp)) (g _ (by simp)) (g _ (by simp))];rfl
 case mul =>
  obtain⟨g,h⟩:=dK hk h
  cases h
  simp only[fJ,Fl.mul_den (a:=a) (b:=b) (g _ (by simp)) (g _ (by simp)) (g _ (by simp))];rfl
 case eql =>
  obtain⟨g,h⟩:=dK hk h
  cases h
  simp only[fJ,Fl.ord_den (a:=a) (b:=b) (g _ (by simp)) (g _ (by simp)),cmp_eq,Option.map_some,X.den,Sc.den,cZ]
 case neq =>
  obtain⟨g,h⟩:=dK hk h
  cases h
  simp only[fJ,Fl.ord_den (a:=a) (b:=b) (g _ (by simp)) (g _ (by simp)),bne,cmp_eq,Option.map_some,X.den,Sc.den,cZ,bz]
 case lss =>
  obtain⟨g,h⟩:=dK hk h
  cases h
  simp only[fJ,Fl.ord_den (a:=a) (b:=b) (g _ (by simp)) (g _ (by simp)),cmp_lt,Option.map_some,X.den,Sc.den,dY]
 case leq =>
  obtain⟨g,h⟩:=dK hk h
  cases h
  simp only[fJ,Fl.ord_den (a:=a) (b:=b) (g _ (by simp)) (g _ (by simp)),cmp_lt,cmp_eq,bd6,Option.map_some,X.den,Sc.den,dY,bz]
 case gtr =>
  obtain⟨g,h⟩:=dK hk h
  cases h
  simp only[fJ,Fl.ord_den (a:=a) (b:=b) (g _ (by simp)) (g _ (by simp)),RF,Option.map_some,X.den,Sc.den,dY]
 case geq =>
  obtain⟨g,h⟩:=dK hk h
  cases h
  simp only[fJ,Fl.ord_den (a:=a) (b:=b) (g _ (by simp)) (g _ (by simp)),RF,cmp_eq,bi0,Option.map_some,X.den,Sc.den,dY,bz]
 all_goals cases h
def cX (a b:Fl):X := .sc (.c a.n a.z b.n b.z)
theorem bm7 (J:Rho) (a b:Fl):(cX a b).den J = .sc (.complex .f64 (a.den J) (b.den J)):=rfl
def bl5 (op:BinOp) (Φ:Facts) (a b c d:Fl):T X :=
 match op with
 | .add=>wants Φ (.ret (cX (a.add c) (b.add d))) [a.n,c.n,(a.add c).n,b.n,d.n,(b.add d).n]
 | .sub=>wants Φ (.ret (cX (a.sub c) (b.sub d))) [a.n,c.n,(a.sub c).n,b.n,d.n,(b.sub d).n]
 | .mul=>wants Φ (.ret (cX ((a.mul c).sub (b.mul d)) ((a.mul d).add (b.mul c)))) [a.n,b.n,c.n,d.n,(a.mul c).n,(b.mul d).n,(a.mul d).n,(b.mul c).n,((a.mul c).sub (b.mul d)).n,((a.mul d).add (b.mul c)).n]
 | .eql=>wants Φ (.ret (.sc (.b (mkAnd (mkEq a.n c.n) (mkEq b.n d.n))))) [a.n,b.n,c.n,d.n]
 | .neq=>wants Φ (.ret (.sc (.b (mkNot (mkAnd (mkEq a.n c.n) (mkEq b.n d.n)))))) [a.n,b.n,c.n,d.n]
 | _ => .fail ["complex"]
theorem an2 {J:Rho} {op:BinOp} {Φ:Facts} {a b c d:Fl} {v:X} (hk:Facts.ok J Φ) (h:(bl5 op Φ a b c d).sel J=some v):(sD op (a.den J) (b.den J) (c.den J) (d.den J)).map AV.sc=some (v.den J):=by
 cases op<;>simp only[bl5]at h
 case add =>
  obtain⟨g,h⟩:=dK hk h
  cases h
  simp only[sD,Fl.add_den (a:=a) (b:=c) (g _ (by simp)) (g _ (by simp)) (g _ (by simp)),Fl.add_den (a:=b) (b:=d) (g _ (by simp)) (g _ (by simp)) (g _ (by simp))];rfl
 case sub =>
  obtain⟨g,h⟩:=dK hk h
  cases h
  simp only[sD,Fl.sub_den (a:=a) (b:=c) (g _ (by simp)) (g _ (by simp)) (g _ (by simp)),Fl.sub_den (a:=b) (b:=d) (g _ (by simp)) (g _ (by simp)) (g _ (by simp))];rfl
 case mul =>
  obtain⟨g,h⟩:=dK hk h
  simp only[T.sel,Option.some.injEq]at h
  subst h
  simp only[List.forall_mem_cons]at g
  obtain⟨g1,g2,g3,g4,g5,g6,g7,g8,g9,g10,_⟩:=g
  have e1:=Fl.mul_den (a:=a) (b:=c) g1 g3 g5
  have e2:=Fl.mul_den (a:=b) (b:=d) g2 g4 g6
  have e3:=Fl.mul_den (a:=a) (b:=d) g1 g4 g7
  have e4:=Fl.mul_den (a:=b) (b:=c) g2 g3 g8
  have e5:=Fl.sub_den (a:=a.mul c) (b:=b.mul d) g5 g6 g9
  have e6:=Fl.add_den (a:=a.mul d) (b:=b.mul c) g7 g8 g10
  simp only[sD,e1,e2,e3,e4,Rz,e5,e6,bm7,Option.map_some]
 case eql =>
  obtain⟨g,h⟩:=dK hk h
  cases h
  simp only[sD,Fl.ord_den (a:=a) (b:=c) (g _ (by simp)) (g _ (by simp)),Fl.ord_den (a:=b) (b:=d) (g _ (by simp)) (g _ (by simp)),cmp_eq,Option.map_some,X.den,Sc.den,cZ,df]
 case neq =>
  obtain⟨g,h⟩:=dK hk h
  cases h
  simp only[sD,Fl.ord_den (a:=a) (b:=c) (g _ (by simp)) (g _ (by simp)),Fl.ord_den (a:=b) (b:=d) (g _ (by simp)) (g _ (by simp)),cmp_eq,Option.map_some,X.den,Sc.den,cZ,df,bz]
 all_goals cases h
def bn0 (i:TI) (Φ:Facts) (op:BinOp) (x y:X):T X :=
 match x,y with
 | .sc (.i k a),.sc (.i k' b)=>bf8 op Φ k a k' b
 | .sc (.s a),.sc (.s b)=>lL (aX5 op a b)
 | .sc (.b a),.sc (.b b)=>match i.bl,op with
  | true,.eql => .ret (.sc (.b (Iz a b)))
  | true,.neq => .ret (.sc (.b (mkNot (Iz a b))))
  | _,_=>(.fail [])
 | .sc (.f n z),.sc (.f m y)=>bi6 op Φ ⟨n,z⟩ ⟨m,y⟩
 | .sc (.c n z m y),.sc (.c n' z' m' y')=>bl5 op Φ ⟨n,z⟩ ⟨m,y⟩ ⟨n',z'⟩ ⟨m',y'⟩
 | .agg xs,.agg ys=>match i.lv,op with
  | some l,.eql=>lL ((CV l xs ys).map fun e => .sc (.b e))
  | some l,.neq=>lL ((CV l xs ys).map fun e => .sc (.b (mkNot e)))
  | _,_=>(.fail [])
 | _,_=>(.fail [])
theorem ao3 {P:Program} {J:Rho} {ty:TypeId} {Φ:Facts} {op:BinOp} {x y v:X} (hk:Facts.ok J Φ) (h:(bn0 (fZ P ty) Φ op x y).sel J=some v):qC P op ty (x.den J) (y.den J)=some (v.den J):=by
 unfold bn0 at h
 split at h
 ·simp only[X.den,Sc.den,qC]
  exact ah7 hk h
 ·simp only[X.den,Sc.den,qC]
  exact Zg (di h)
 ·split at h
  ·rename_i hb
   have hb':boolT P ty=true:=hb
   cases h
   simp only[X.den,Sc.den,qC,hb',wo]
  ·rename_i hb
   have hb':boolT P ty=true:=hb
   cases h
   simp only[X.den,Sc.den,qC,hb',wo,bz]
  ·cases h
 ·have g:=aj6 hk h
  simp only[Fl.den]at g
  simp only[X.den,Sc.den,qC]
  exact g
 ·have g:=an2 hk h
  simp only[Fl.den]at g
  simp only[X.den,Sc.den,qC]
  exact g
 ·split at h
  ·rename_i l hl
   have hl':rW P ty=some l:=hl
   obtain⟨e,he,rfl⟩:=Option.map_eq_some_iff.1 (di h)
   simp only[X.den,Sc.den,qC,hl',Option.bind_some,uU he,Option.map_some]
  ·rename_i l hl
   have hl':rW P ty=some l:=hl
   obtain⟨e,he,rfl⟩:=Option.map_eq_some_iff.1 (di h)
   simp only[X.den,Sc.den,qC,hl',Option.bind_some,uU he,Option.map_some,bz]
  ·cases h
 ·cases h
def unX (Φ:Facts) (op:UnOp):X->T X
 | .sc (.b e) => match op with | .not => .ret (.sc (.b (mkNot e))) | _ => .fail ["op"]
 | .sc (.i k e) => match op with | .neg => .ret (.sc (.i k (rP .sub k (.lit 0) e))) | _ => .fail ["op"]
 | .sc (.f n z) => match op with | .neg => wants Φ (.ret (.sc (.f (oV (.lit 0) n) (mkNot z)))) [n] | _ => .fail ["op"]
 | .sc (.c n z m y) => match op with | .neg => wants Φ (.ret (.sc (.c (oV (.lit 0) n) (mkNot z) (oV (.lit 0) m) (mkNot y)))) [n, m] | _ => .fail ["op"]
 | _ => .fail ["op"]
theorem au8 {J:Rho} {Φ:Facts} {op:UnOp} {x v:X} (hk:Facts.ok J Φ) (h:(unX Φ op x).sel J=some v):unR op (x.den J)=some (v.den J):=by
 unfold unX at h
 split at h
 ·split at h
  ·cases h;simp only[X.den,Sc.den,unR,bz]
  ·cases h
 ·split at h
  ·cases h;simp only[X.den,Sc.den,unR,jE,IOp.den,IE.den]
  ·cases h
 ·split at h
  ·obtain⟨g,h⟩:=dK hk h
   cases h
   simp only[X.den,Sc.den,unR,gX,bz,IE.den,bi5 (g _ List.mem_cons_self),Int.zero_sub]
  ·cases h
 ·split at h
  ·obtain⟨g,h⟩:=dK hk h
   cases h
   simp only[X.den,Sc.den,unR,gX,bz,IE.den,bi5 (g _ List.mem_cons_self),bi5 (g _ (List.mem_cons_of_mem _ List.mem_cons_self)),Int.zero_sub]
  ·cases h
 ·cases h
def QJ (k:IntKind):IE->IE
 | .lit n => .lit (k.wrap n)
 | e => .op .conv k e (.lit 0)
theorem QI (J:Rho) (k:IntKind) (e:IE):(QJ k e).den J=k.wrap (e.den J):=by
 unfold QJ;split<;>simp[IE.den,IOp.den]
def an4 (Φ:Facts) (src dst:TI):X->T X
 | .sc (.i _ e)=>match dst.ik,src.und with
  | some k,true => .ret (.sc (.i k (QJ k e)))
  | none,true=>(match dst.fl with
   | true=>wants Φ (.ret (.sc (.f (nU Φ e) (.lit false)))) [nU Φ e]
   | false => .fail ["conv"])
  | _, _ => .fail ["conv"]
 | .sc (.f n _)=>match dst.ik,src.und with
  | some .i64,true=>wants Φ (.ret (.sc (.i .i64 n))) [n]
  | _, _ => .fail ["conv"]
 | _ => .fail ["conv"]
theorem Q3 {n:Int} (h:n.natAbs<2 ^ 53):IntKind.i64.min<=n/\n<=IntKind.i64.max:=by
 have e1:IntKind.i64.min = -9223372036854775808:=by decide
 have e2:IntKind.i64.max=9223372036854775807:=by decide
 rw[e1,e2]
 omega
theorem Ya {P:Program} {J:Rho} {Φ:Facts} {src dst:TypeId} {x v:X} (hk:Facts.ok J Φ) (h:(an4 Φ (fZ P src) (fZ P dst) x).sel J=some v):Ji P src dst (x.den J)=some (v.den J):=by
 have ik:∀{k:IntKind},bg2 P dst=some k->P.underlying dst=some (.int k):=fun hk'=>by
  unfold bg2 at hk'
  split at hk'
  ·rename_i hd;cases hk';exact hd
  ·cases hk'
 unfold an4 at h
 split at h
 ·split at h
  ·rename_i k hk1 hu
   have hu':(P.underlying src).isSome=true:=hu
   cases h
   simp only[X.den,Sc.den,Ji,hu',if_true,Gh,QI,ik hk1]
  ·rename_i hk1 hu
   have hu':(P.underlying src).isSome=true:=hu
   split at h
   ·rename_i hf
    obtain⟨g,h⟩:=dK hk h
    cases h
    have hf':P.underlying dst=some (.float .f64):=by
     have hf:bi7 P dst=true:=hf
     unfold bi7 at hf
     split at hf
     ·assumption
     ·cases hf
    have g1:=g _ List.mem_cons_self
    simp only[X.den,Sc.den,Ji,hu',if_true,Gh,hf',BE.den]
    rw[uD hk]at g1 ⊢
    rw[bZ5 _ g1]
   ·cases h
  ·cases h
 ·split at h
  ·rename_i hk1 hu
   have hu':(P.underlying src).isSome=true:=hu
   obtain⟨g,h⟩:=dK hk h
   cases h
   have g1:=g _ List.mem_cons_self
   simp only[X.den,Sc.den,Ji,hu',if_true,Gh,ik hk1,fint g1,Q3 g1,and_self]
  ·cases h
 ·cases h
def O4:Builtin->List X->Option X
 | .real,[.sc (.c n z _ _)]=>some (.sc (.f n z))
 | .imag,[.sc (.c _ _ m y)]=>some (.sc (.f m y))
 | .complex,[.sc (.f n z),.sc (.f m y)]=>some (.sc (.c n z m y))
 | _,_=>none
theorem X8 {J:Rho} {b:Builtin} {xs:List X} {v:X} (h:O4 b xs=some v):Ry b (X.denL J xs)=some (v.den J):=by
 unfold O4 at h
 split at h
 ·cases h;rfl
 ·cases h;rfl
 ·cases h;rfl
 ·cases h
def OV (place:Nat->Option (Nat×Nat)) (cells:List X):List (Nat×X)->Option (List X)
 | []=>some cells
 | (i,v)::r=>match place i with
  | none=>none
  | some (off,size)=>if(Nat.beq v.cells.length size&&(Nat.ble (off+size) cells.length&&v.cells.all X.one))=true then OV place (pV cells off v.cells) r else none
noncomputable def CW (J:Rho) (ps:List (Nat×X)):List (Nat×AV):=ps.map fun p=>(p.1,p.2.den J)
theorem I4 {J:Rho} {place:Nat->Option (Nat×Nat)}:∀{ps:List (Nat×X)} {cells cs:List X},OV place cells ps=some cs->qX place (X.denL J cells) (CW J ps)=some (X.denL J cs)
 | [],_,_,h=>by simp only[OV,Option.some.injEq]at h;subst h;rfl
 | (i,v)::r,cells,cs,h=>by
  simp only[OV]at h
  simp only[CW,List.map_cons,qX]
  split at h
  ·cases h
  ·rename_i off size hp
   rw[hp]
   simp only
   split at h
   ·rename_i hc
    simp only[Bool.and_eq_true,Nat.ble_eq]at hc
    rw[X.cells_den J v hc.2.2,X.denL_len,X.denL_len,if_pos ⟨Nat.eq_of_beq_eq_true hc.1,hc.2.1,X.all_one J _ hc.2.2⟩,<-pU]
    exact I4 h
   ·cases h
def Z5 (i:TI):Nat->Option (Nat×Nat) :=
 match i.arr,i.rc with
 | some (_,z),_=>fun j=>some (j*z,z)
 | none,some l=>fun j=>l[j]?
 | none,none=>fun _=>none
def RS (i:TI) (ps:List (Nat×X)):Option X :=
 match i.zero with
 | some zs=>if(i.arr.isSome||i.rc.isSome)=true then(OV (Z5 i) (zs.map WT) ps).map .agg else none
 | none=>none
theorem y9 (J:Rho) (l:List Value):X.denL J (l.map WT)=l.map AV.sc:=by simp[X.denL_eq,Ur]
theorem RQ {P:Program} {J:Rho} {ty:TypeId} {ps:List (Nat×X)} {v:X} (h:RS (fZ P ty) ps=some v):LP P ty (CW J ps) (jk P ty)=some (v.den J):=by
 unfold RS at h
 split at h
 ·rename_i zs hz
  have hz':zeroV P ty=some zs:=hz
  split at h
  ·rename_i hc
   obtain⟨cs,hf,rfl⟩:=Option.map_eq_some_iff.1 h
   rw[yE,hz']
   simp only[Option.map_some,LP]
   have hc':((lJ P ty).isSome||(uz P ty).isSome)=true:=hc
   rw[if_pos hc',<-y9 J]
   have hp:Z5 (fZ P ty)=placeOf P ty:=rfl
   rw[hp]at hf
   rw[I4 hf];rfl
  ·cases h
 ·cases h
def Jd (z:Nat):Nat->List (Nat×X)->Bool
 | _,[]=>true
 | k,(i,v)::r=>Nat.beq i k&&(Nat.beq v.cells.length z&&(v.cells.all X.one&&Jd z (k+1) r))
theorem Jc {J:Rho} {z:Nat}:∀{ps:List (Nat×X)} {k:Nat},Jd z k ps=true->qj z k (CW J ps)=true
 | [],_,_=>rfl
 | (i,v)::r,k,h=>by
  simp only[Jd,Bool.and_eq_true]at h
  simp only[CW,List.map_cons,qj,Bool.and_eq_true,beq_iff_eq,X.cells_den J v h.2.2.1,X.denL_len]
  exact⟨Nat.eq_of_beq_eq_true h.1,Nat.eq_of_beq_eq_true h.2.1,X.all_one J _ h.2.2.1,Jc h.2.2.2⟩
def EH:List (Nat×X)->List (List X)
 | []=>[]
 | (_,v)::r=>v.cells::EH r
theorem AA (J:Rho) {z:Nat}:∀(ps:List (Nat×X)) {k:Nat},Jd z k ps=true->X.denE J (EH ps)=dB (CW J ps)
 | [],_,_=>rfl
 | (i,v)::r,k,h=>by
  simp only[Jd,Bool.and_eq_true]at h
  simp only[EH,X.denE,CW,List.map_cons,dB,X.cells_den J v h.2.2.1];rw[AA J r h.2.2.2];rfl
def jb:List (List X)->List X
 | []=>[]
 | e::es=>e++jb es
theorem jS (J:Rho):∀es,X.denL J (jb es)=(X.denE J es).flatten
 | []=>rfl
 | e::es=>by simp only[jb,X.denE,List.flatten_cons,X.denL_append,jS J es]
def YE (i:TI):Option Nat:=i.zero.map List.length
theorem YD (P:Program) (e:TypeId):YE (fZ P e)=sZ P e:=by
 unfold YE sZ
 rw[yE]
 show(zeroV P e).map List.length=_
 cases zeroV P e with
 | none=>rfl
 | some l=>simp
def at6 (i:TI) (z:Nat):Bool:=match YE i with | some z'=>Nat.beq z' z | none=>false
theorem SG {P:Program} {e:TypeId} {z:Nat} (h:at6 (fZ P e) z=true):sZ P e=some z:=by
 rw[<-YD]
 unfold at6 at h
 split at h
 ·rename_i z' hz';rw[hz',Nat.eq_of_beq_eq_true h]
 ·cases h
def vg (n:Nat) (mu:Bool) (i:TI) (ti:Nat->Option TI) (len:Nat) (ps:List (Nat×X)):Option (X×dR) :=
 match i.sl with
 | some (e,z)=>match ti e with
  | some ie=>if(at6 ie z&&(Nat.ble (len*z) 16777216&&(Nat.beq ps.length len&&Jd z 0 ps)))=true then
    (match mu with
    | false=>some (.ro z (EH ps) true,[])
    | true=>if aZ (jb (EH ps))=true then none else some (.sl (n,0) z 0 len true,[((n,0),some (jb (EH ps)))]))
   else none
  | none=>none
 | none=>none
def TIs.ok (P:Program) (ti:Nat->Option TI):Prop:=∀t i,ti t=some i->i=fZ P t
theorem CX {P:Program} {J:Rho} {n:Nat} {mu:Bool} {ty:TypeId} {ti:Nat->Option TI} (hti:TIs.ok P ti) {len:Nat} {ps:List (Nat×X)} {v:X} {d:dR} (h:vg n mu (fZ P ty) ti len ps=some (v,d)) :
  fK P n mu ty len (CW J ps)=some (v.den J,bZ J d):=by
 unfold vg at h
 split at h
 ·rename_i e z hs
  have hs':jU P ty=some (e,z):=hs
  split at h
  ·rename_i ie hie
   have hie:=hti _ _ hie
   subst hie
   split at h
   ·rename_i hc
    simp only[Bool.and_eq_true,Nat.ble_eq]at hc
    obtain⟨h1,h2,h3,h4⟩:=hc
    have hz:=SG h1
    simp only[fK,hs',hz]
    rw[if_pos ⟨trivial,h2,by simpa [CW]using Nat.eq_of_beq_eq_true h3,Jc h4⟩]
    cases mu with
    | false=>cases h;simp only[X.den,AA J ps h4];rfl
    | true =>
     simp only at h
     split at h
     ·cases h
     ·rename_i hr
      cases h;simp only[X.den,bZ,List.map_cons,List.map_nil,Option.map_some,bC (J:=J) (show aZ (jb (EH ps))=false by simpa using hr),jS,AA J ps h4]
   ·cases h
  ·cases h
 ·cases h
def bd4 (i:TI) (h:bg) (Φ:Facts):X->T X
 | .ro _ es _=>if i.sl.isSome=true then .ret (.sc (.i .i64 (.lit es.length)))else(.fail [])
 | .rl _ n _ _=>if i.sl.isSome=true then want Φ (mkNot (eU n (.lit 0))) fun _ => .ret (.sc (.i .i64 n))else(.fail [])
 | .rn _ n _ _ _=>if i.sl.isSome=true then want Φ (mkNot (eU n (.lit 0))) fun _ => .ret (.sc (.i .i64 n))else(.fail [])
 | .tq _ m _ es _=>if i.sl.isSome=true then want Φ (mkNot (eU m (.lit 0))) fun _ => .ret (.sc (.i .i64 (fC m (.lit es.length))))else(.fail [])
 | .sl m _ _ len _=>if(i.sl.isSome&&lN h m)=true then .ret (.sc (.i .i64 (.lit len)))else(.fail [])
 | .k (.slice _ m _)=>if i.sl.isSome=true then .ret (.sc (.i .i64 (.lit m)))else(.fail [])
 | .sc (.s t)=>if i.str=true then .ret (.sc (.i .i64 (uH t)))else(.fail [])
 | .agg _=>match i.arr with
  | some (n,_) => .ret (.sc (.i .i64 (.lit n)))
  | none=>(.fail [])
 | _=>(.fail [])
theorem af6 {P:Program} {J:Rho} {ty:TypeId} {h:bg} {Φ:Facts} {x v:X} (hk:Facts.ok J Φ) (hv:(bd4 (fZ P ty) h Φ x).sel J=some v):AY (uN P (aV J h) ty (x.den J))=some (v.den J):=by
 unfold bd4 at hv
 split at hv
 ·split at hv
  ·rename_i hs
   have hs':(jU P ty).isSome=true:=hs
   cases hv
   simp only[X.den,uN,hs',if_true,AY,Sc.den,IE.den,X.denE_eq,List.length_map]
  ·cases hv
 ·split at hv
  ·rename_i n l f hs
   have hs':(jU P ty).isSome=true:=hs
   obtain⟨_,_,h1,hv⟩:=aS hk hv
   cases hv
   have h1:=bf h1
   simp only[IE.den]at h1
   have:((aC J n l).length:Int)=n.den J:=by simp only[aC,List.length_map,List.length_range];omega
   simp only[X.den,uN,hs',if_true,AY,Sc.den,this]
  ·cases hv
 ·split at hv
  ·rename_i n l ks f hs
   have hs':(jU P ty).isSome=true:=hs
   obtain⟨_,_,h1,hv⟩:=aS hk hv
   cases hv
   have h1:=bf h1
   simp only[IE.den]at h1
   have:((jB J n l ks).length:Int)=n.den J:=by simp only[jB,List.length_map,List.length_range];omega
   simp only[X.den,uN,hs',if_true,AY,Sc.den,this]
  ·cases hv
 ·split at hv
  ·rename_i m t es f hs
   have hs':(jU P ty).isSome=true:=hs
   obtain⟨_,_,h1,hv⟩:=aS hk hv
   cases hv
   have h1:=bf h1
   simp only[IE.den]at h1
   have:∀z,((bD J z m t++X.denE J es).length:Int)=(fC m (.lit es.length)).den J:=fun z=>by
    rw[bK,List.length_append,kP,X.denE_eq,List.length_map]
    simp only[IE.den];omega
   simp only[X.den,uN,hs',if_true,AY,Sc.den,this]
  ·cases hv
 ·split at hv
  ·rename_i m z off len own hs
   simp only[Bool.and_eq_true]at hs
   have hs':(jU P ty).isSome=true:=hs.1
   cases hv
   simp only[X.den,uN,hs',fB hs.2,and_self,if_true,AY,Sc.den,IE.den]
  ·cases hv
 ·split at hv
  ·rename_i hs
   have hs':(jU P ty).isSome=true:=hs
   cases hv
   simp only[X.den,uN,hs',if_true,AY,Sc.den,IE.den]
  ·cases hv
 ·split at hv
  ·rename_i hs
   have hs':CP P ty=true:=hs
   cases hv
   simp only[X.den,uN,hs',if_true,AY,Sc.den,l9]
  ·cases hv
 ·split at hv
  ·rename_i n z hs
   have hs':lJ P ty=some (n,z):=hs
   cases hv
   simp only[X.den,uN,hs',Option.map_some,AY,Sc.den,IE.den]
  ·cases hv
 ·cases hv
def ad7 (a b:IE):IE:=if a.beq b=true then a else rP .max .i64 a b
theorem Xq (J:Rho) (a b:IE):(ad7 a b).den J=Max.max (a.den J) (b.den J):=by
 unfold ad7;split
 ·rename_i h;rw[IE.beq_eq _ _ h];omega
 ·rw[jE];rfl
def ad6 (a b:IE):IE:=if a.beq b=true then a else rP .min .i64 a b
theorem Xp (J:Rho) (a b:IE):(ad6 a b).den J=Min.min (a.den J) (b.den J):=by
 unfold ad6;split
 ·rename_i h;rw[IE.beq_eq _ _ h];omega
 ·rw[jE];rfl
def ae0:X->List X->Option X
 | .sc (.i k a),[]=>some (.sc (.i k a))
 | .sc (.i k a),.sc (.i _ b)::r=>ae0 (.sc (.i k (ad7 a b))) r
 | _,_=>none
theorem Oj {J:Rho}:∀{l:List X} {x v:X},ae0 x l=some v->G5 (x.den J) (X.denL J l)=some (v.den J)
 | [],x,v,h=>by
  unfold ae0 at h
  split at h
  ·cases h;simp only[X.denL,X.den,Sc.den,G5]
  ·contradiction
  ·cases h
 | y::r,x,v,h=>by
  unfold ae0 at h
  split at h
  ·contradiction
  ·rename_i k a k' b r' he
   cases he
   have:=Oj (J:=J) h
   simp only[X.den,Sc.den,Xq]at this
   simp only[X.denL,X.den,Sc.den,G5]
   exact this
  ·cases h
def ad8:X->List X->Option X
 | .sc (.i k a),[]=>some (.sc (.i k a))
 | .sc (.i k a),.sc (.i _ b)::r=>ad8 (.sc (.i k (ad6 a b))) r
 | _,_=>none
theorem Oi {J:Rho}:∀{l:List X} {x v:X},ad8 x l=some v->GZ (x.den J) (X.denL J l)=some (v.den J)
 | [],x,v,h=>by
  unfold ad8 at h
  split at h
  ·cases h;simp only[X.denL,X.den,Sc.den,GZ]
  ·contradiction
  ·cases h
 | y::r,x,v,h=>by
  unfold ad8 at h
  split at h
  ·contradiction
  ·rename_i k a k' b r' he
   cases he
   have:=Oi (J:=J) h
   simp only[X.den,Sc.den,Xp]at this
   simp only[X.denL,X.den,Sc.den,GZ]
   exact this
  ·cases h
end Go.Proofs.Xw
namespace Go.Proofs.Xw
open Go Go.Proofs.Aw
inductive Rows where
 | c (es:List (List X))
 | r (n:IE) (l:RL)
noncomputable def Rows.den (J:Rho):Rows->List (List AV)
 | .c es=>X.denE J es
 | .r n l=>aC J n l
def pF (z:Nat):Nat->List X->List (List X)
 | 0,_=>[]
 | k+1,cs=>cs.take z::pF z k (cs.drop z)
theorem mF (J:Rho) (z:Nat):∀(k:Nat) (cs:List X),X.denE J (pF z k cs)=chunk z k (X.denL J cs)
 | 0,_=>rfl
 | k+1,cs=>by simp only[pF,X.denE,chunk,X.denL_take,mF J z k,X.denL_drop]
def Ll (h:bg) (z:Nat):X->Option Rows
 | .ro z' es _=>if Nat.beq z' z=true then some (.c es)else none
 | .rl z' n l _=>if Nat.beq z' z=true then some (.r n l)else none
 | .sl m z' off len _=>match xk h m with
  | some cs=>if(Nat.beq z' z&&Nat.ble (off+len*z) cs.length)=true then some (.c (pF z len (cs.drop off)))else none
  | none=>none
 | .k (.slice none 0 0)=>some (.c [])
 | _=>none
theorem FY {J:Rho} {h:bg} {z:Nat} {x:X} {r:Rows} (he:Ll h z x=some r):fA (aV J h) z (x.den J)=some (r.den J):=by
 unfold Ll at he
 split at he
 ·split at he
  ·rename_i hz;cases he;have hz:=Nat.eq_of_beq_eq_true hz;subst hz;simp only[X.den,fA,if_true,Rows.den]
  ·cases he
 ·split at he
  ·rename_i hz;cases he;have hz:=Nat.eq_of_beq_eq_true hz;subst hz;simp only[X.den,fA,if_true,Rows.den]
  ·cases he
 ·split at he
  ·rename_i cs hg
   split at he
   ·rename_i hz
    cases he
    simp only[Bool.and_eq_true,Nat.ble_eq]at hz
    have hz1:=Nat.eq_of_beq_eq_true hz.1
    subst hz1
    simp only[X.den,fA,oJ hg,Option.bind_some,X.denL_len,Rows.den,mF,X.denL_drop]
    rw[if_pos ⟨trivial,hz.2⟩]
   ·cases he
  ·cases he
 ·cases he;simp only[X.den,fA,Rows.den,X.denE]
 ·cases he
def Pj (z:Nat):X->Option Rows
 | .ro z' es true=>if Nat.beq z' z=true then some (.c es)else none
 | .rl z' n l true=>if Nat.beq z' z=true then some (.r n l)else none
 | .k (.slice none 0 0)=>some (.c [])
 | _=>none
theorem Yd {J:Rho} {z:Nat} {x:X} {r:Rows} (he:Pj z x=some r):jX z (x.den J)=some (r.den J):=by
 unfold Pj at he
 split at he
 ·split at he
  ·rename_i hz;cases he;have hz:=Nat.eq_of_beq_eq_true hz;subst hz;simp only[X.den,jX,if_true,Rows.den]
  ·cases he
 ·split at he
  ·rename_i hz;cases he;have hz:=Nat.eq_of_beq_eq_true hz;subst hz;simp only[X.den,jX,if_true,Rows.den]
  ·cases he
 ·cases he;simp only[X.den,jX,Rows.den,X.denE]
 ·cases he
def uk:List X->Option (List Sc)
 | []=>some []
 | .sc s::r=>(uk r).map (s :: ·)
 | _=>none
theorem ou {J:Rho}:∀{l:List X} {s:List Sc},uk l=some s->mQ J s=X.denL J l
 | [],s,h=>by simp only[uk,Option.some.injEq]at h;subst h;rfl
 | x::r,s,h=>by
  unfold uk at h
  split at h
  ·contradiction
  ·rename_i s' r' he
   cases he
   obtain⟨t,ht,rfl⟩:=Option.map_eq_some_iff.1 h
   have:=ou (J:=J) ht
   simp only[X.denL,X.den,<-this]
   rfl
  ·cases h
def Ed:List (List X)->Option RL
 | []=>none
 | [e]=>(uk e).map .one
 | e::es=>match uk e,Ed es with
  | some s,some l=>some (.app (.lit 1) (.one s) l)
  | _,_=>none
theorem MN {J:Rho}:∀{es:List (List X)} {l:RL},Ed es=some l->∀j:Nat,j<es.length->(X.denE J es)[j]? = some (l.row J j)
 | [],_,h,_,_=>by simp[Ed]at h
 | [e],l,h,j,hj=>by
  simp only[Ed]at h
  obtain⟨s,hs,rfl⟩:=Option.map_eq_some_iff.1 h
  obtain rfl:j=0:=by simpa using hj
  simp only[X.denE,List.getElem?_cons_zero,RL.row,ou hs]
 | e::e'::es,l,h,j,hj=>by
  simp only[Ed]at h
  split at h
  ·rename_i s l' hs hl
   cases h
   simp only[RL.row]
   cases j with
   | zero =>
    rw[if_pos (show((0:Nat):Int)<(IE.lit 1).den J from by simp[IE.den])]
    simp only[X.denE,List.getElem?_cons_zero,ou hs]
   | succ j =>
    rw[if_neg (show ¬((j+1:Nat):Int)<(IE.lit 1).den J from by simp only[IE.den];omega),show((j+1:Nat):Int)-(IE.lit 1).den J=(j:Nat)from by simp only[IE.den];omega]
    have:=MN (J:=J) hl j (by simpa using hj)
    simpa only[X.denE,List.getElem?_cons_succ]using this
  ·cases h
theorem yN {J:Rho} {es:List (List X)} {l:RL} (h:Ed es=some l):aC J (.lit es.length) l=X.denE J es:=by
 apply List.ext_getElem?
 intro j
 by_cases hj:j<es.length
 ·rw[MN h j hj,gB (by simp only[IE.den];omega)]
 ·rw[List.getElem?_eq_none (by simp[aC,IE.den];omega),List.getElem?_eq_none (by simp[X.denE_eq];omega)]
theorem Ap {J:Rho} {n m:IE} {a b:RL} (hn:0<=n.den J) (hm:0<=m.den J):aC J (fC n m) (.app n a b)=aC J n a++aC J m b:=by
 apply List.ext_getElem?
 intro j
 obtain⟨x,hx⟩:∃x:Nat,n.den J=x:=⟨(n.den J).toNat,by omega⟩
 obtain⟨y,hy⟩:∃y:Nat,m.den J=y:=⟨(m.den J).toNat,by omega⟩
 have hl:(aC J n a).length=x:=by simp[aC,hx]
 by_cases h1:j<x
 ·rw[List.getElem?_append_left (by omega),gB (by rw[bK];omega),gB (by omega)]
  simp only[RL.row,hx]
  rw[if_pos (by omega)]
 ·rw[List.getElem?_append_right (by omega),hl]
  by_cases h2:j<x+y
  ·rw[gB (by rw[bK];omega),gB (by omega)]
   simp only[RL.row,hx]
   rw[if_neg (by omega),show(j:Int)-x=(j-x:Nat)from by omega]
  ·rw[List.getElem?_eq_none (by simp[aC,bK,hx,hy];omega),List.getElem?_eq_none (by simp[aC,hy];omega)]
def Rows.len:Rows->IE
 | .c es => .lit es.length
 | .r n _=>n
def aK6:Rows->Rows->Option Rows
 | .c es,.c fs=>some (.c (es++fs))
 | .r n l,.c []=>some (.r n l)
 | .c [],.r n l=>some (.r n l)
 | .r n l,.c fs=>(Ed fs).map fun m => .r (fC n (.lit fs.length)) (.app n l m)
 | .c es,.r n l=>(Ed es).map fun m => .r (fC (.lit es.length) n) (.app (.lit es.length) m l)
 | .r n l,.r m k=>some (.r (fC n m) (.app n l k))
theorem Rows.len_den {J:Rho} {a:Rows} (h:0<=a.len.den J):((a.den J).length:Int)=a.len.den J:=by
 cases a with
 | c es=>simp[Rows.den,Rows.len,X.denE_eq,IE.den]
 | r n l=>simp only[Rows.len]at h;simp only[Rows.den,Rows.len,aC,List.length_map,List.length_range];omega
theorem Pg {J:Rho} {a b c:Rows} (ha:0<=a.len.den J) (hb:0<=b.len.den J) (h:aK6 a b=some c):c.den J=a.den J++b.den J:=by
 unfold aK6 at h
 split at h
 ·cases h;simp[Rows.den,X.denE_eq]
 ·cases h;simp[Rows.den,X.denE]
 ·cases h;simp[Rows.den,X.denE]
 ·obtain⟨m,hm,rfl⟩:=Option.map_eq_some_iff.1 h
  simp only[Rows.den,<-yN hm]
  exact Ap ha hb
 ·obtain⟨m,hm,rfl⟩:=Option.map_eq_some_iff.1 h
  simp only[Rows.den,<-yN hm]
  exact Ap ha hb
 ·cases h
  exact Ap ha hb
def Gp (b:Nat):Nat:=Nat.min (140737488355328 / b) 9223372036854775807
theorem wL {b n:Nat} (h:n<=Gp b):n*b<=140737488355328/\n<=9223372036854775807:=by
 have h1:n<=140737488355328 / b:=Nat.le_trans h (Nat.min_le_left _ _)
 have h2:n<=9223372036854775807:=Nat.le_trans h (Nat.min_le_right _ _)
 exact⟨Nat.mul_le_of_le_div b n _ h1,h2⟩
def Rows.ro (z:Nat):Rows->X
 | .c es => .ro z es false
 | .r n l => .rl z n l false
theorem Rows.ro_den (J:Rho) (z:Nat) (a:Rows):(a.ro z).den J = .ro z (a.den J) false:=by cases a<;>rfl
def EL {α:Type} (Φ:Facts) (a b:Rows) (by_:Nat) (k:Facts->T α):T α :=
 want Φ (mkNot (eU a.len (.lit 0))) fun Φ=>want Φ (mkNot (eU b.len (.lit 0))) fun Φ=>want Φ (mkNot (eU (.lit (Gp by_)) (fC a.len b.len))) k
theorem oz {α:Type} {J:Rho} {Φ:Facts} {a b:Rows} {by_:Nat} {k:Facts->T α} {x:α} (hk:Facts.ok J Φ) (h:(EL Φ a b by_ k).sel J=some x) :
  ∃Φ',Facts.ok J Φ'/\0<=a.len.den J/\0<=b.len.den J/\((a.den J).length+(b.den J).length)*by_<=140737488355328/\(a.den J).length+(b.den J).length<=9223372036854775807/\(k Φ').sel J=some x:=by
 obtain⟨Φ1,hk1,c1,h⟩:=aS hk h
 obtain⟨Φ2,hk2,c2,h⟩:=aS hk1 h
 obtain⟨Φ3,hk3,c3,h⟩:=aS hk2 h
 have c1:=bf c1
 have c2:=bf c2
 have c3:=bf c3
 rw[bK]at c3
 simp only[IE.den]at c1 c2 c3
 have l1:=Rows.len_den (J:=J) (a:=a) (by omega)
 have l2:=Rows.len_den (J:=J) (a:=b) (by omega)
 have:=wL (b:=by_) (n:=(a.den J).length+(b.den J).length) (by omega)
 exact⟨Φ3,hk3,by omega,by omega,this.1,this.2,h⟩
def bn3 (n z b:Nat) (m:Nm) (w off len:Nat) (own:Bool) (cs:List X) (fs:List (List X)):Option (X×dR) :=
 if(!aZ (cs.drop off++jb fs)&&(Nat.beq w z&&(own&&(Nat.beq cs.length (off+len*z)&&((jb fs).all X.one&&Nat.ble (len+fs.length) (Gp b))))))=true then
  some (.sl (n,0) z 0 (len+fs.length) true,[(m,none),((n,0),some (cs.drop off++jb fs))])else none
theorem ap0 {P:Program} {J:Rho} {n z:Nat} {m:Nm} {w off len:Nat} {own mu:Bool} {e:TypeId} {h:bg} {cs:List X} {fs:List (List X)} {r:X×dR} (hg:xk h m=some cs) (hv:bn3 n z (dA P e) m w off len own cs fs=some r) :
  PX P n (aV J h) mu e z (.sl m w off len own) (some (X.denE J fs))=some (r.1.den J,bZ J r.2):=by
 unfold bn3 at hv
 split at hv
 ·rename_i hcc
  simp only[Bool.and_eq_true,Nat.ble_eq]at hcc
  obtain⟨g0,g1,g3,g4,g5,g6⟩:=hcc
  have g0:aZ (cs.drop off++jb fs)=false:=by simpa using g0
  have g1:=Nat.eq_of_beq_eq_true g1
  have g4:=Nat.eq_of_beq_eq_true g4
  subst g1
  cases hv
  have hl2:(X.denE J fs).length=fs.length:=by simp[X.denE_eq]
  have hcap:=wL g6
  simp only[PX,oJ hg,apS,X.denL_len,hl2]
  rw[if_pos ⟨trivial,g3⟩,if_pos ⟨g4,by rw[<-jS];exact X.all_one J _ g5,hcap.1,hcap.2⟩]
  simp only[X.den,bZ,List.map_cons,List.map_nil,Option.map_some,Option.map_none,bC g0,X.denL_append,jS,X.denL_drop]
 ·cases hv
def vP (n z:Nat) (d:dR) (es fs:Rows):Option (X×dR) :=
 match aK6 es fs with
 | some (.r N L)=>if(L.wd z&&(N.beq (fC es.len fs.len)))=true then some (.slv (n,0) z (.lit 0) N true,d++[((n,0),some [.rows z N L])])else none
 | _=>none
theorem pY {J:Rho} {n z:Nat} {d:dR} {es fs:Rows} {r:X×dR} (la:0<=es.len.den J) (lb:0<=fs.len.den J) (hv:vP n z d es fs=some r) :
  (r.1.den J,bZ J r.2)=(.sl (n,0) z 0 ((es.den J).length+(fs.den J).length) true,bZ J d++[((n,0),some ((es.den J).flatten++(fs.den J).flatten))]):=by
 unfold vP at hv
 split at hv
 ·rename_i N L hcat
  split at hv
  ·rename_i hc
   simp only[Bool.and_eq_true]at hc
   cases hv
   have h1:aC J N L=es.den J++fs.den J:=Pg la lb hcat
   have h2:=Rows.len_den la
   have h3:=Rows.len_den lb
   have h4:=IE.beq_eq _ _ hc.2
   have h5:(N.den J).toNat=(es.den J).length+(fs.den J).length:=by rw[h4,bK];omega
   simp only[X.den,IE.den,h5,bZ,List.map_append,List.map_cons,List.map_nil,Option.map_some,aF,h1,List.flatten_append]
   simp
  ·cases hv
 ·cases hv
def aT0 (n z b:Nat) (es fs:List (List X)):Option (X×dR) :=
 if(!aZ (jb es++jb fs)&&(Nat.ble (es.length+fs.length) (Gp b)&&Nat.blt 0 fs.length))=true then some (.sl (n,0) z 0 (es.length+fs.length) true,[((n,0),some (jb es++jb fs))])else none
def Si (n:Nat) (mu:Bool) (z b:Nat) (Φ:Facts) (es fs:Rows):T (X×dR) :=
 match mu with
 | false=>EL Φ es fs b fun _=>lL ((aK6 es fs).map fun r=>(r.ro z,[]))
 | true=>match es,fs with
  | .c es,.c fs=>lL (aT0 n z b es fs)
  | es,fs=>EL Φ es fs b fun Φ=>want Φ (eU (.lit 0) fs.len) fun _=>lL (vP n z [] es fs)
theorem RZ {J:Rho} {n z b:Nat} {mu:Bool} {Φ:Facts} (hk:Facts.ok J Φ) {es fs:Rows} {r:X×dR} (hv:(Si n mu z b Φ es fs).sel J=some r):apO n mu z b (fs.den J) (some (es.den J))=some (r.1.den J,bZ J r.2):=by
 unfold Si at hv
 split at hv
 ·obtain⟨Φ',_,la,lb,c1,c2,hv⟩:=oz hk hv
  obtain⟨c,hcat,rfl⟩:=Option.map_eq_some_iff.1 (di hv)
  simp only[apO]
  rw[if_pos ⟨c1,c2,fun hh=>(nomatch hh)⟩,Rows.ro_den,Pg la lb hcat]
  rfl
 ·split at hv
  ·rename_i es fs
   have hv:=di hv
   unfold aT0 at hv
   split at hv
   ·rename_i hcc
    simp only[Bool.and_eq_true,Nat.ble_eq]at hcc
    have g0:aZ (jb es++jb fs)=false:=by simpa using hcc.1
    have hcc:=hcc.2
    cases hv
    have hl1:(X.denE J es).length=es.length:=by simp[X.denE_eq]
    have hl2:(X.denE J fs).length=fs.length:=by simp[X.denE_eq]
    have hcap:=wL hcc.1
    have hpos:0<fs.length:=by simpa [Nat.blt_eq]using hcc.2
    simp only[apO,Rows.den,hl1,hl2]
    rw[if_pos ⟨hcap.1,hcap.2,fun _ hh=>by rw[<-hl2,hh]at hpos;simp at hpos⟩]
    simp only[X.den,bZ,List.map_cons,List.map_nil,Option.map_some,bC g0,X.denL_append,jS]
   ·cases hv
  ·obtain⟨Φ',hk',la,lb,c1,c2,hv⟩:=oz hk hv
   obtain⟨Φ2,_,c3,hv⟩:=aS hk' hv
   rw[dY]at c3
   have c3:=of_decide_eq_true c3
   simp only[IE.den]at c3
   have hl:=Rows.len_den (J:=J) lb
   simp only[apO]
   rw[if_pos ⟨c1,c2,fun _ hh=>by rw[hh]at hl;simp at hl;omega⟩]
   have:=di hv
   rw[pY la lb this]
   rfl
def Dz:Rows->Bool
 | .c es=>(jb es).all X.one
 | .r _ _=>true
theorem TP (J:Rho) (r:List Sc):(mQ J r).all AV.one=true:=by
 unfold mQ
 rw[List.all_eq_true]
 intro x hx
 obtain⟨s,_,rfl⟩:=List.mem_map.1 hx
 cases s<;>rfl
theorem sN (J:Rho) (l j:Nat):∀(ks:List Kd) (k:Nat),(aW J l k ks j).all AV.one=true
 | [],_=>rfl
 | .i _::ks,k=>by simp only[aW,List.all_cons,sN J l j ks (k+1),Bool.and_true];rfl
 | .b::ks,k=>by simp only[aW,List.all_cons,sN J l j ks (k+1),Bool.and_true];rfl
 | .s::ks,k=>by simp only[aW,List.all_cons,sN J l j ks (k+1),Bool.and_true];rfl
theorem row_one (J:Rho):∀(l:RL) (j:Int),(l.row J j).all AV.one=true
 | .var l ks,j=>sN J l _ ks 0
 | .one r,j=>TP J r
 | .app n a b,j=>by
  simp only[RL.row]
  split
  ·exact row_one J a _
  ·exact row_one J b _
 | .drop n a,j=>row_one J a _
 | .upd i r a,j=>by
  simp only[RL.row]
  split
  ·exact TP J r
  ·exact row_one J a _
 | .ite c a b,j=>by
  simp only[RL.row]
  split
  ·exact row_one J a _
  ·exact row_one J b _
theorem uw {J:Rho} {fs:Rows} (h:Dz fs=true):(fs.den J).flatten.all AV.one=true:=by
 cases fs with
 | c es=>simp only[Rows.den,<-jS];exact X.all_one J _ h
 | r n l =>
  simp only[Rows.den,aC]
  rw[List.all_eq_true]
  intro x hx
  obtain⟨r,hr,hx⟩:=List.mem_flatten.1 hx
  obtain⟨j,_,rfl⟩:=List.mem_map.1 hr
  exact List.all_eq_true.1 (row_one J l j) x hx
def qw (h:bg) (m:Nm):Option (Nat×IE×RL):=match aT h m with
 | some [.rows z n l]=>if l.wd z=true then some (z,n,l)else none
 | _=>none
theorem rG {J:Rho} {h:bg} {m:Nm} {z:Nat} {n:IE} {l:RL} (hr:qw h m=some (z,n,l)):hget (aV J h) m=some (aC J n l).flatten/\l.wd z=true:=by
 unfold qw at hr
 split at hr
 ·rename_i z' n' l' hg
  split at hr
  ·rename_i hw
   cases hr
   exact⟨by rw[aG,hg];rfl,hw⟩
  ·cases hr
 ·cases hr
theorem qM {J:Rho} {n:IE} {l:RL} {z:Nat} (hw:l.wd z=true) (j:Nat) (e:List AV) (h:(aC J n l)[j]? = some e):e.length=z:=by
 unfold aC at h
 rw[List.getElem?_map]at h
 obtain⟨k,_,rfl⟩:=Option.map_eq_some_iff.1 h
 exact RL.wd_len hw
theorem gy (J:Rho) (n:IE) (l:RL):(aC J n l).length=(n.den J).toNat:=by simp[aC]
theorem kG {J:Rho} {n:IE} {l:RL} {z:Nat} (hw:l.wd z=true):(aC J n l).flatten.length=(n.den J).toNat*z:=by
 rw[flat_length _ (fun j e h=>qM hw j e h),gy]
theorem zH {J:Rho} {n:IE} {l:RL} {z j:Nat} (hw:l.wd z=true) (hj:(j:Int)<n.den J) {k:Nat} (hk:k<z):(aC J n l).flatten[j*z+k]? = (l.row J j)[k]? :=
 zI _ (fun j e h=>qM hw j e h) j _ (gB hj) k hk
theorem row_in {j m z:Nat} (h:j<m):j*z+z<=m*z:=by rw[<-Nat.succ_mul];exact Nat.mul_le_mul_right z h
theorem XT {J:Rho} {n:IE} {l:RL} {z j:Nat} (hw:l.wd z=true) (hj:(j:Int)<n.den J) {o s:Nat} (ho:o+s<=z):((aC J n l).flatten.drop (j*z+o)).take s=((l.row J j).drop o).take s:=by
 apply List.ext_getElem?
 intro i
 rw[List.getElem?_take,List.getElem?_take]
 split
 ·rename_i hi
  rw[List.getElem?_drop,List.getElem?_drop,Nat.add_assoc,zH hw hj (by omega)]
 ·rfl
theorem az9 {J:Rho} {n:IE} {l:RL} {z j:Nat} (hw:l.wd z=true) (hj:(j:Int)<n.den J) {o s:Nat} (ho:o+s<=z) (hz:o<z) (b:Option Bool) {v:AV} (h:PU b s (l.row J j) o=some v):PU b s (aC J n l).flatten (j*z+o)=some v:=by
 match b,h with
 | some true,h =>
  simp only[PU]at h ⊢
  split at h
  ·rename_i hc
   have:=row_in (z:=z) (show j<(n.den J).toNat by omega)
   rw[if_pos ⟨hc.1,by rw[kG hw];omega⟩,XT hw hj ho]
   exact h
  ·cases h
 | some false,h =>
  simp only[PU]at h ⊢
  rw[zH hw hj hz];exact h
theorem Ak {J:Rho} {z:Nat} {m:IE} {t:Nat} (j:Nat) (e:List AV) (h:(bD J z m t)[j]? = some e):e.length=z:=by
 unfold bD at h
 rw[List.getElem?_map]at h
 obtain⟨k,_,rfl⟩:=Option.map_eq_some_iff.1 h
 rw[List.length_map,List.length_range]
theorem P9 {J:Rho} {z:Nat} {m:IE} {t:Nat} {es:List (List X)} (h:es.all (fun e=>Nat.beq e.length z)=true) (j:Nat) (e:List AV) (hj:(bD J z m t++X.denE J es)[j]? = some e):e.length=z:=by
 by_cases c:j<(bD J z m t).length
 ·rw[List.getElem?_append_left c]at hj
  exact Ak j e hj
 ·rw[List.getElem?_append_right (by omega),X.denE_eq,List.getElem?_map]at hj
  obtain⟨r,hr,rfl⟩:=Option.map_eq_some_iff.1 hj
  rw[X.denL_len]
  exact Nat.eq_of_beq_eq_true (List.all_eq_true.1 h r (List.mem_of_getElem? hr))
theorem Ey {J:Rho} {z:Nat} {m:IE} {t:Nat}:(bD J z m t).flatten.length=(m.den J).toNat*z:=by
 rw[flat_length _ (fun j e h=>Ak j e h)]
 unfold bD;rw[List.length_map,List.length_range]
theorem Bh {J:Rho} {z:Nat} {m:IE} {t j:Nat} (hj:(j:Int)<m.den J) {k:Nat} (hk:k<z):(bD J z m t).flatten[j*z+k]? = some (J.ct t k j).1:=by
 rw[zI _ (fun j e h=>Ak j e h) j _ (Am hj) k hk,List.getElem?_map,List.getElem?_range hk];rfl
def loadT (i:TI) (h:bg) (Φ:Facts) (m:Nm) (z:Nat) (j:IE) (o:Nat):T X :=
 match aT h m with
 | some [.tk z' n t []]=>if(Nat.beq z' z&&(Nat.ble (o+i.cells) z&&Nat.blt o z))=true then
   inB Φ j n fun _=>lL (rdX i.agg i.cells (Yb z t j) o)
  else (.fail ["loadT"])
 | _ => (.fail ["qw"])
theorem XC {P:Program} {J:Rho} {ty:TypeId} {h:bg} {Φ:Facts} {m:Nm} {z:Nat} {j:IE} {o:Nat} {v:X} (hk:Facts.ok J Φ) (hv:(loadT (fZ P ty) h Φ m z j o).sel J=some v):uM P (aV J h) ty ((X.ptrv m z j o).den J)=some (v.den J):=by
 unfold loadT at hv
 split at hv
 ·rename_i z' n t hg
  split at hv
  ·rename_i hc
   simp only[Bool.and_eq_true,Nat.ble_eq,Nat.blt_eq]at hc
   have hz:=Nat.eq_of_beq_eq_true hc.1
   subst hz
   obtain⟨Φ',q,hk',he,hj,hv⟩:=jm hk hv
   have h1:=vS (J:=J) (di hv)
   rw[Gn,he,Int.toNat_natCast]at h1
   have hget:hget (aV J h) m=some (bD J z' n t).flatten:=by rw[aG,hg];simp only[Option.map_some,aF,X.denE,List.append_nil]
   have hcells:(fZ P ty).cells=P.cellsOf ty:=rfl
   have hagg:(fZ P ty).agg=nC P ty:=rfl
   obtain⟨_,hc1,hc2⟩:=hc
   rw[hcells,hagg]at h1
   rw[hcells]at hc1
   simp only[X.den,uM,hget,rdO,he,Int.toNat_natCast]
   have hin:=row_in (z:=z') (show q<(n.den J).toNat by omega)
   have hfl:=Ey (J:=J) (z:=z') (m:=n) (t:=t)
   match hb:nC P ty,h1 with
   | some true,h1 =>
    simp only[PU]at h1 ⊢
    split at h1
    ·rename_i hc'
     rw[if_pos ⟨hc'.1,by rw[hfl];omega⟩,<-h1]
     congr 2
     apply List.ext_getElem?
     intro i
     rw[List.getElem?_take,List.getElem?_take]
     split
     ·rename_i hi
      rw[List.getElem?_drop,List.getElem?_drop,Nat.add_assoc,Bh hj (by omega),List.getElem?_map,List.getElem?_range (by omega)];rfl
     ·rfl
    ·cases h1
   | some false,h1 =>
    simp only[PU]at h1 ⊢
    rw[List.getElem?_map,List.getElem?_range hc2]at h1
    rw[Bh hj hc2];exact h1
  ·cases hv
 ·cases hv
def UL (i:TI) (h:bg) (Φ:Facts) (m:Nm) (z:Nat) (j:IE) (o:Nat):T X :=
 match qw h m with
 | some (z',n,l)=>if(Nat.beq z' z&&(Nat.ble (o+i.cells) z&&Nat.blt o z))=true then
   inB Φ j n fun Φ=>match l.getF Φ j with
    | some r=>lL (rdX i.agg i.cells (ab4 r) o)
    | none => (.fail ["row"])
  else (.fail ["UL"])
 | none=>loadT i h Φ m z j o
theorem XB {P:Program} {J:Rho} {ty:TypeId} {h:bg} {Φ:Facts} {m:Nm} {z:Nat} {j:IE} {o:Nat} {v:X} (hk:Facts.ok J Φ) (hv:(UL (fZ P ty) h Φ m z j o).sel J=some v):uM P (aV J h) ty ((X.ptrv m z j o).den J)=some (v.den J):=by
 unfold UL at hv
 split at hv
 ·rename_i z' n l hr
  split at hv
  ·rename_i hc
   simp only[Bool.and_eq_true,Nat.ble_eq,Nat.blt_eq]at hc
   have hz:=Nat.eq_of_beq_eq_true hc.1
   subst hz
   obtain⟨Φ',t,hk',he,hj,hv⟩:=jm hk hv
   obtain⟨hg,hw⟩:=rG (J:=J) hr
   split at hv
   ·rename_i r hget
    have h1:=vS (J:=J) (di hv)
    rw[EM,RL.getF_den hk' hget,he]at h1
    have hcells:(fZ P ty).cells=P.cellsOf ty:=rfl
    have hagg:(fZ P ty).agg=nC P ty:=rfl
    rw[hcells,hagg]at h1
    simp only[X.den,uM,hg,rdO,he,Int.toNat_natCast]
    exact az9 hw hj (by have:=hc.2.1;rw[hcells]at this;exact this) hc.2.2 _ h1
   ·cases hv
  ·cases hv
 ·exact XC hk hv
def UD (j:IE) (r:List Sc):RL->RL
 | .upd i q a=>if i.beq j=true then .upd j r a else .upd j r (.upd i q a)
 | a => .upd j r a
theorem Xn (J:Rho) (j:IE) (r:List Sc) (a:RL) (k:Int):(UD j r a).row J k=if k=j.den J then mQ J r else a.row J k:=by
 unfold UD
 split
 ·split
  ·rename_i i q b hb
   have:=IE.beq_eq _ _ hb
   subst this
   simp only[RL.row]
   split<;>rfl
  ·rfl
 ·rfl
theorem xy {cs ys:List AV} {o:Nat} (ho:o<=cs.length) (i:Nat):(eH cs o ys)[i]? = if i<o then cs[i]? else if i<o+ys.length then ys[i-o]? else cs[i]? := by
 unfold eH
 have hl:(cs.take o).length=o:=by rw[List.length_take];omega
 by_cases h1:i<o
 ·rw[List.getElem?_append_left (by omega),List.getElem?_take,if_pos h1,if_pos h1]
 ·rw[List.getElem?_append_right (by omega),hl,if_neg h1]
  by_cases h2:i<o+ys.length
  ·rw[List.getElem?_append_left (by omega),if_pos h2]
  ·rw[List.getElem?_append_right (by omega),if_neg h2,List.getElem?_drop,show o+ys.length+(i-o-ys.length)=i from by omega]
theorem MW {J:Rho} {n:IE} {l:RL} {z j:Nat} (hw:l.wd z=true) (hj:(j:Int)<n.den J) {o:Nat} {ys:List AV} (ho:o+ys.length<=z) {m:RL} (hmw:m.wd z=true)
  (hm:∀k:Int,m.row J k=if k=j then eH (l.row J j) o ys else l.row J k):eH (aC J n l).flatten (j*z+o) ys=(aC J n m).flatten:=by
 have hin:=row_in (z:=z) (show j<(n.den J).toNat by omega)
 have hF:=kG (J:=J) (n:=n) hw
 have hG:=kG (J:=J) (n:=n) hmw
 apply List.ext_getElem?
 intro i
 rw[xy (by omega)]
 by_cases hi:i<(n.den J).toNat*z
 ·have hz:0<z:=by
   rcases Nat.eq_zero_or_pos z with h0 | h0
   ·subst h0;simp at hi
   ·exact h0
  obtain⟨q,k,hk,rfl⟩:∃q k,k<z/\i=q*z+k:=⟨i / z,i % z,Nat.mod_lt _ hz,by rw[Nat.mul_comm];exact(Nat.div_add_mod i z).symm⟩
  have hq:(q:Int)<n.den J:=by
   have:q<(n.den J).toNat:=by
    rcases Nat.lt_or_ge q (n.den J).toNat with h | h
    ·exact h
    ·have:=Nat.mul_le_mul_right z h;omega
   omega
  rw[zH hmw hq hk,hm,zH hw hq hk]
  by_cases hqj:q=j
  ·subst hqj
   rw[if_pos rfl,xy (by rw[RL.wd_len hw];omega)]
   by_cases h1:k<o
   ·rw[if_pos (by omega),if_pos h1]
   ·rw[if_neg (by omega),if_neg h1]
    by_cases h2:k<o+ys.length
    ·rw[if_pos (by omega),if_pos h2,show q*z+k-(q*z+o)=k-o from by omega]
    ·rw[if_neg (by omega),if_neg h2]
  ·rw[if_neg (show ¬((q:Nat):Int)=j by omega)]
   rcases Nat.lt_or_ge q j with h | h
   ·have:=row_in (z:=z) h
    rw[if_pos (by omega)]
   ·have:=row_in (z:=z) (show j<q by omega)
    rw[if_neg (by omega),if_neg (by omega)]
 ·rw[if_neg (by omega),if_neg (by omega),List.getElem?_eq_none (by omega),List.getElem?_eq_none (by omega)]
def storeT (i:TI) (h:bg) (Φ:Facts) (m:Nm) (z:Nat) (j:IE) (o:Nat) (ys:List X):T dR :=
 match aT h m with
 | some [.tk z' n t []]=>match ys with
  | [.cel t' o' j']=>if(Nat.beq z' z&&(Nat.blt o z&&(Nat.beq i.cells 1&&(Nat.beq t' t&&(Nat.beq o' o&&j'.beq j)))))=true then
    inB Φ j n fun _ => .ret [(m,some [.tk z n t []])]
   else (.fail ["storeT"])
  | _ => (.fail ["storeT"])
 | _ => (.fail ["qw"])
theorem Qh {P:Program} {J:Rho} {ty:TypeId} {h:bg} {Φ:Facts} {m:Nm} {z:Nat} {j:IE} {o:Nat} {ys:List X} {d:dR} (hk:Facts.ok J Φ) (hv:(storeT (fZ P ty) h Φ m z j o ys).sel J=some d) :
  ys.all X.one=true/\qo P (aV J h) ty ((X.ptrv m z j o).den J) (X.denL J ys)=some (bZ J d):=by
 unfold storeT at hv
 split at hv
 ·rename_i z' n t hg
  split at hv
  ·rename_i t' o' j'
   split at hv
   ·rename_i hc
    simp only[Bool.and_eq_true,Nat.blt_eq]at hc
    obtain⟨g1,g2,g3,g4,g5,g6⟩:=hc
    have g1:=Nat.eq_of_beq_eq_true g1
    have g3:=Nat.eq_of_beq_eq_true g3
    have g4:=Nat.eq_of_beq_eq_true g4
    have g5:=Nat.eq_of_beq_eq_true g5
    have g6:=IE.beq_eq _ _ g6
    subst g1 g4 g5 g6
    obtain⟨Φ',q,hk',he,hj,hv⟩:=jm hk hv
    cases hv
    have hone:[X.cel t' o' j'].all X.one=true:=rfl
    refine⟨hone,?_⟩
    have hget:hget (aV J h) m=some (bD J z' n t').flatten:=by rw[aG,hg];simp only[Option.map_some,aF,X.denE,List.append_nil]
    have hcells:P.cellsOf ty=1:=g3
    have hin:=row_in (z:=z') (show q<(n.den J).toNat by omega)
    have hfl:=Ey (J:=J) (z:=z') (m:=n) (t:=t')
    simp only[X.den,qo,hget,wrN,he,Int.toNat_natCast,hcells]
    rw[if_pos ⟨by omega,rfl,by rw[hfl];omega,X.all_one J _ hone⟩]
    simp only[bZ,List.map_cons,List.map_nil,Option.map_some,aF,X.denE,List.append_nil]
    congr 4
    apply List.ext_getElem?
    intro i
    have hl:(X.denL J [X.cel t' o' j']).length=1:=rfl
    rw[xy (by rw[hfl];omega),hl]
    split
    ·rfl
    ·split
     ·have:i=q*z'+o':=by omega
      subst this
      rw[Nat.sub_self,Bh hj g2]
      simp only[X.denL,X.den,he,Int.toNat_natCast];rfl
     ·rfl
   ·cases hv
  ·cases hv
 ·cases hv
def JK (i:TI) (h:bg) (Φ:Facts) (m:Nm) (z:Nat) (j:IE) (o:Nat) (ys:List X):T dR :=
 match qw h m with
 | some (z',n,l)=>if(Nat.beq z' z&&(Nat.ble (o+i.cells) z&&(Nat.beq ys.length i.cells&&(Nat.blt 0 i.cells&&ys.all X.one))))=true then
   inB Φ j n fun Φ=>match l.getF Φ j with
    | some r=>match uk (pV (ab4 r) o ys)with
     | some r' => if (UD j r' l).wd z = true then .ret [(m, some [.rows z n (UD j r' l)])] else (.fail ["wd"])
     | none => (.fail ["scs"])
    | none => (.fail ["row"])
  else (.fail ["JK"])
 | none=>storeT i h Φ m z j o ys
theorem Qg {P:Program} {J:Rho} {ty:TypeId} {h:bg} {Φ:Facts} {m:Nm} {z:Nat} {j:IE} {o:Nat} {ys:List X} {d:dR} (hk:Facts.ok J Φ) (hv:(JK (fZ P ty) h Φ m z j o ys).sel J=some d) :
  ys.all X.one=true/\qo P (aV J h) ty ((X.ptrv m z j o).den J) (X.denL J ys)=some (bZ J d):=by
 unfold JK at hv
 split at hv
 ·rename_i z' n l hr
  split at hv
  ·rename_i hc
   simp only[Bool.and_eq_true,Nat.ble_eq,Nat.blt_eq]at hc
   obtain⟨hz,h1,h2,h3,h4⟩:=hc
   have hz:=Nat.eq_of_beq_eq_true hz
   subst hz
   have h2:=Nat.eq_of_beq_eq_true h2
   have hcells:(fZ P ty).cells=P.cellsOf ty:=rfl
   rw[hcells]at h1 h2 h3
   obtain⟨Φ',t,hk',he,hj,hv⟩:=jm hk hv
   obtain⟨hg,hw⟩:=rG (J:=J) hr
   split at hv
   ·rename_i r hget
    split at hv
    ·rename_i r' hs
     split at hv
     ·rename_i hmw
      cases hv
      refine⟨h4,?_⟩
      simp only[X.den,qo,hg,wrN,X.denL_len,he,Int.toNat_natCast]
      have hin:=row_in (z:=z') (show t<(n.den J).toNat by omega)
      rw[if_pos ⟨h3,h2,by rw[kG hw];omega,X.all_one J _ h4⟩]
      have hsp:mQ J r'=eH (l.row J t) o (X.denL J ys):=by
       rw[ou hs,pU,EM,RL.getF_den hk' hget,he]
      rw[MW hw hj (by rw[X.denL_len];omega) hmw (fun k=>by rw[Xn,he,hsp])]
      rfl
     ·cases hv
    ·cases hv
   ·cases hv
  ·cases hv
 ·exact Qh hk hv
def ai0 (i:TI) (h:bg) (Φ:Facts) (m:Nm) (z:Nat) (off len e:IE):T X :=
 match i.sl with
 | some (_, z') => if (Nat.beq z' z && lN h m) = true then want Φ (mkNot (eU off (.lit 0))) fun Φ => inB Φ e len fun _ => .ret (.ptrv m z (fC off e) 0) else (.fail ["ai0"])
 | none => (.fail ["ai0"])
theorem ah9 {P:Program} {J:Rho} {ty:TypeId} {h:bg} {Φ:Facts} {m:Nm} {z:Nat} {off len e:IE} {own:Bool} {k:IntKind} {v:X} (hk:Facts.ok J Φ) (hv:(ai0 (fZ P ty) h Φ m z off len e).sel J=some v) :
  fQ P (aV J h) ty ((X.slv m z off len own).den J) (.sc (.int k (e.den J)))=some (v.den J):=by
 unfold ai0 at hv
 split at hv
 ·rename_i ee z' hs
  have hs':jU P ty=some (ee,z'):=hs
  split at hv
  ·rename_i hc
   simp only[Bool.and_eq_true]at hc
   have hz:=Nat.eq_of_beq_eq_true hc.1
   subst hz
   obtain⟨Φ1,hk1,c1,hv⟩:=aS hk hv
   obtain⟨Φ',t,_,he,hj,hv⟩:=jm hk1 hv
   cases hv
   have c1:=bf c1
   simp only[IE.den]at c1
   simp only[X.den,fQ,iaS,hs',fB hc.2,he,Int.toNat_natCast,bK]
   rw[if_pos ⟨trivial,trivial,by omega,by omega⟩]
   simp only[Nat.add_zero]
   congr 2
   rw[show(off.den J+(t:Int)).toNat=(off.den J).toNat+t from by omega,Nat.add_mul]
  ·cases hv
 ·cases hv
def Em (i:TI) (h:bg) (Φ:Facts) (m:Nm) (z:Nat) (off len:IE) (own:Bool) (lo hi:IE):T X :=
 match i.sl with
 | some (_,z')=>if(Nat.beq z' z&&lN h m)=true then
   want Φ (mkNot (eU off (.lit 0))) fun Φ=>want Φ (mkNot (eU lo (.lit 0))) fun Φ=>want Φ (mkNot (eU (oV hi lo) (.lit 0))) fun Φ=>want Φ (mkNot (eU len hi)) fun _ =>
    .ret (.slv m z (fC off lo) (oV hi lo) own)
  else (.fail ["Em"])
 | none => (.fail ["Em"])
theorem Qj {P:Program} {J:Rho} {ty:TypeId} {h:bg} {Φ:Facts} {m:Nm} {z:Nat} {off len:IE} {own:Bool} {lo hi:Option X} {l r:IE} {v:X} (hk:Facts.ok J Φ) (hl:Gt lo (.lit 0)=some l) (hr:Gt hi len=some r)
  (hv:(Em (fZ P ty) h Φ m z off len own l r).sel J=some v):qp P (aV J h) ty ((X.slv m z off len own).den J) (lo.map (X.den J)) (hi.map (X.den J)) none=some (v.den J):=by
 unfold Em at hv
 split at hv
 ·rename_i ee z' hs
  have hs':jU P ty=some (ee,z'):=hs
  split at hv
  ·rename_i hc
   simp only[Bool.and_eq_true]at hc
   have hz:=Nat.eq_of_beq_eq_true hc.1
   subst hz
   obtain⟨Φ1,hk1,c1,hv⟩:=aS hk hv
   obtain⟨Φ2,hk2,c2,hv⟩:=aS hk1 hv
   obtain⟨Φ3,hk3,c3,hv⟩:=aS hk2 hv
   obtain⟨Φ4,hk4,c4,hv⟩:=aS hk3 hv
   cases hv
   have c1:=bf c1
   have c2:=bf c2
   have c3:=bf c3
   have c4:=bf c4
   rw[gX]at c3
   simp only[IE.den]at c1 c2 c3
   obtain⟨a,ha2⟩:∃a:Nat,l.den J=a:=⟨(l.den J).toNat,by omega⟩
   obtain⟨b,hb2⟩:∃b:Nat,r.den J=b:=⟨(r.den J).toNat,by omega⟩
   have e1:=iy (J:=J) hl (dn:=0) (by simp[IE.den]) ha2
   have e2:=iy (J:=J) hr (dn:=(len.den J).toNat) (by omega) hb2
   simp only[qp,e1,X.den,xx,e2,slN,hs',fB hc.2]
   rw[if_pos ⟨trivial,trivial,by omega,by omega⟩]
   simp only[bK,gX,ha2,hb2,Option.some.injEq,AV.sl.injEq,true_and,and_true]
   exact⟨by rw[show(off.den J+(a:Int)).toNat=(off.den J).toNat+a from by omega,Nat.add_mul],by omega⟩
  ·cases hv
 ·cases hv
def lenV (i:TI) (h:bg) (Φ:Facts) (m:Nm) (len:IE):T X :=
 if (i.sl.isSome && lN h m) = true then want Φ (mkNot (eU len (.lit 0))) fun _ => .ret (.sc (.i .i64 len)) else (.fail ["lenV"])
theorem af8 {P:Program} {J:Rho} {ty:TypeId} {h:bg} {Φ:Facts} {m:Nm} {z:Nat} {off len:IE} {own:Bool} {v:X} (hk:Facts.ok J Φ) (hv:(lenV (fZ P ty) h Φ m len).sel J=some v):AY (uN P (aV J h) ty ((X.slv m z off len own).den J))=some (v.den J):=by
 unfold lenV at hv
 split at hv
 ·rename_i hs
  simp only[Bool.and_eq_true]at hs
  have hs':(jU P ty).isSome=true:=hs.1
  obtain⟨_,_,h1,hv⟩:=aS hk hv
  cases hv
  have h1:=bf h1
  simp only[IE.den]at h1
  simp only[X.den,uN,hs',fB hs.2,and_self,if_true,AY,Sc.den]
  congr 3
  omega
 ·cases hv
def F6 (h:bg) (Φ:Facts) (z:Nat):X->T Rows
 | .slv m z' off len _=>match qw h m with
  | some (w,n,l)=>if(Nat.beq z' z&&Nat.beq w z)=true then
    want Φ (mkNot (eU off (.lit 0))) fun Φ=>want Φ (mkNot (eU len (.lit 0))) fun Φ=>want Φ (mkNot (eU n (fC off len))) fun _ =>
     .ret (.r len (match off with | .lit 0=>l | off => .drop off l))
   else (.fail ["F6"])
  | none => (.fail ["qw"])
 | x=>lL (Ll h z x)
theorem uY {z:Nat}:∀(es:List (List AV)) (k:Nat),(∀(j:Nat) (e:List AV),es[j]? = some e->e.length=z)->k<=es.length->chunk z k es.flatten=es.take k
 | _,0,_,_=>by simp[chunk]
 | [],k+1,_,h=>by simp at h
 | e::es,k+1,h,hk=>by
  have h0:=h 0 e rfl
  simp only[chunk,List.flatten_cons,List.take_succ_cons]
  rw[List.take_append_of_le_length (by omega),List.take_of_length_le (by omega),<-h0,List.drop_append_of_le_length (Nat.le_refl _),List.drop_length,List.nil_append,h0,
   uY es k (fun j e' hj=>h (j+1) e' (by simpa using hj)) (by simpa using hk)]
theorem o8 {z:Nat}:∀(k:Nat) (es:List (List AV)),(∀(j:Nat) (e:List AV),es[j]? = some e->e.length=z)->es.flatten.drop (k*z)=(es.drop k).flatten
 | 0,es,_=>by simp
 | k+1,[],_=>by simp
 | k+1,e::es,h=>by
  have h0:=h 0 e rfl
  rw[List.flatten_cons,List.drop_succ_cons,Nat.succ_mul,Nat.add_comm,<-List.drop_drop,<-h0,List.drop_append_of_le_length (Nat.le_refl _),List.drop_length,List.nil_append,h0]
  exact o8 k es (fun j e' hj=>h (j+1) e' (by simpa using hj))
theorem FZ {J:Rho} {h:bg} {Φ:Facts} {z:Nat} {x:X} {r:Rows} (hk:Facts.ok J Φ) (he:(F6 h Φ z x).sel J=some r):fA (aV J h) z (x.den J)=some (r.den J):=by
 unfold F6 at he
 split at he
 ·split at he
  ·rename_i m z' off len own oo w n l hr
   split at he
   ·rename_i hc
    simp only[Bool.and_eq_true]at hc
    have hz1:=Nat.eq_of_beq_eq_true hc.1
    have hz2:=Nat.eq_of_beq_eq_true hc.2
    subst hz1 hz2
    obtain⟨Φ1,hk1,c1,he⟩:=aS hk he
    obtain⟨Φ2,hk2,c2,he⟩:=aS hk1 he
    obtain⟨Φ3,hk3,c3,he⟩:=aS hk2 he
    cases he
    have c1:=bf c1
    have c2:=bf c2
    have c3:=bf c3
    rw[bK]at c3
    simp only[IE.den]at c1 c2
    obtain⟨a,ha⟩:∃a:Nat,off.den J=a:=⟨(off.den J).toNat,by omega⟩
    obtain⟨b,hb⟩:∃b:Nat,len.den J=b:=⟨(len.den J).toNat,by omega⟩
    obtain⟨c,hcn⟩:∃c:Nat,n.den J=c:=⟨(n.den J).toNat,by omega⟩
    obtain⟨hg,hw⟩:=rG (J:=J) hr
    have hle:a+b<=c:=by omega
    have h2:(a+b)*w<=c*w:=Nat.mul_le_mul_right w hle
    rw[Nat.add_mul]at h2
    simp only[X.den,fA,hg,Option.bind_some,ha,hb,Int.toNat_natCast,kG hw,hcn]
    rw[if_pos ⟨trivial,h2⟩,o8 a _ (fun j e h=>qM hw j e h),uY _ _ (fun j e h=>qM hw (a+j) e (by rw[List.getElem?_drop]at h;exact h)) (by rw[List.length_drop,gy];omega)]
    simp only[Rows.den,Option.some.injEq]
    apply List.ext_getElem?
    intro j
    rw[List.getElem?_take,List.getElem?_drop]
    by_cases hj:j<b
    ·rw[if_pos hj,gB (by omega),gB (by omega)]
     congr 1
     split
     ·simp only[IE.den]at ha
      rw[show a+j=j from by omega]
     ·simp only[RL.row,ha]
      congr 1
      omega
    ·rw[if_neg hj,List.getElem?_eq_none (by rw[gy];omega)]
   ·cases he
  ·cases he
 ·exact FY (di he)
def Rows.toR:Rows->Option Rows
 | .c es=>(Ed es).map fun m => .r (.lit es.length) m
 | .r n l=>some (.r n l)
theorem Rows.toR_den {J:Rho} {a b:Rows} (h:a.toR=some b):b.den J=a.den J/\b.len=a.len:=by
 cases a with
 | c es =>
  obtain⟨m,hm,rfl⟩:=Option.map_eq_some_iff.1 h
  exact⟨yN hm,rfl⟩
 | r n l=>cases h;exact⟨rfl,rfl⟩
def Rows.cut (Φ:Facts) (len off:IE) (l:RL):Rows :=
 match red Φ (mkEq len (.lit 0))with
 | .lit true => .c []
 | _ => .r len (.drop off l)
theorem HY {J:Rho} {n len off:IE} {l:RL} (h0:0<=off.den J) (h1:0<=len.den J) (hn:n.den J=off.den J+len.den J):(aC J n l).drop (off.den J).toNat=aC J len (.drop off l):=by
 obtain⟨a,ha⟩:∃a:Nat,off.den J=a:=⟨(off.den J).toNat,by omega⟩
 obtain⟨b,hb⟩:∃b:Nat,len.den J=b:=⟨(len.den J).toNat,by omega⟩
 apply List.ext_getElem?
 intro j
 rw[List.getElem?_drop,ha,Int.toNat_natCast]
 by_cases hj:j<b
 ·rw[gB (by omega),gB (by omega)]
  simp only[RL.row,ha]
  congr 2
  omega
 ·rw[List.getElem?_eq_none (by rw[gy];omega),List.getElem?_eq_none (by rw[gy];omega)]
theorem Rows.cut_den {J:Rho} {Φ:Facts} (hk:Facts.ok J Φ) {n len off:IE} {l:RL} (h0:0<=off.den J) (h1:0<=len.den J) (hn:n.den J=off.den J+len.den J):(Rows.cut Φ len off l).den J=(aC J n l).drop (off.den J).toNat/\(Rows.cut Φ len off l).len.den J=len.den J:=by
 unfold Rows.cut
 split
 ·rename_i he
  have:=bu hk (mkEq len (.lit 0))
  rw[he,cZ]at this
  have hz:len.den J=0:=by
   have:=of_decide_eq_true this.symm
   exact this
  constructor
  ·rw[HY h0 h1 hn];simp[Rows.den,X.denE,aC,hz]
  ·simp[Rows.len,IE.den,hz]
 ·exact⟨(HY h0 h1 hn).symm,rfl⟩
def apV (n z b:Nat) (h:bg) (Φ:Facts) (fs:Rows) (m:Nm) (w:Nat) (off len:IE) (own:Bool):T (X×dR) :=
 match qw h m with
 | some (w',n',l)=>if(Nat.beq w z&&(Nat.beq w' z&&own))=true then
   (if(off.beq (.lit 0)&&n'.beq len)=true then
    EL Φ (.r len l) fs b fun _ => if Dz fs = true then lL (vP n z [(m, none)] (.r len l) fs) else (.fail ["one"])
   else want Φ (mkNot (eU off (.lit 0))) fun Φ=>want Φ (mkEq n' (fC off len)) fun Φ=>want Φ (mkNot (eU len (.lit 0))) fun Φ =>
    match fs.toR with
    | some fs => EL Φ (Rows.cut Φ len off l) fs b fun _ => if Dz fs = true then lL (vP n z [(m, none)] (Rows.cut Φ len off l) fs) else (.fail ["one"])
    | none => (.fail ["toR"]))
  else (.fail ["apV"])
 | none => (.fail ["qw"])
def apC (n z b:Nat) (Φ:Facts) (cs:List X) (fs:Rows) (m:Nm) (w off len:Nat) (own:Bool):T (X×dR) :=
 if(Nat.beq w z&&(own&&Nat.beq cs.length (off+len*z)))=true then
  EL Φ (.c (pF z len (cs.drop off))) fs b fun _ => if Dz fs = true then lL (vP n z [(m, none)] (.c (pF z len (cs.drop off))) fs) else (.fail ["one"])
 else (.fail ["apC"])
theorem aL3 {P:Program} {J:Rho} {n z:Nat} {mu:Bool} {e:TypeId} {h:bg} {Φ:Facts} (hk:Facts.ok J Φ) {fs:Rows} {m:Nm} {w:Nat} {off len:IE} {own:Bool} {r:X×dR} (hv:(apV n z (dA P e) h Φ fs m w off len own).sel J=some r) :
  PX P n (aV J h) mu e z ((X.slv m w off len own).den J) (some (fs.den J))=some (r.1.den J,bZ J r.2):=by
 unfold apV at hv
 split at hv
 ·rename_i w' n' l hr
  split at hv
  ·rename_i hc
   simp only[Bool.and_eq_true]at hc
   obtain⟨g1,g2,g4⟩:=hc
   have g1:=Nat.eq_of_beq_eq_true g1
   have g2:=Nat.eq_of_beq_eq_true g2
   subst g1 g2
   obtain⟨hg,hw⟩:=rG (J:=J) hr
   split at hv
   ·rename_i hc
    simp only[Bool.and_eq_true]at hc
    obtain⟨g3,g5⟩:=hc
    have g3:=IE.beq_eq _ _ g3
    have g5:=IE.beq_eq _ _ g5
    subst g3 g5
    obtain⟨Φ',_,la,lb,c1,c2,hv⟩:=oz hk hv
    split at hv
    ·rename_i hone
     have hn:=pY la lb (di hv)
     have hl:(aC J n' l).length=(n'.den J).toNat:=gy J n' l
     simp only[Rows.den]at c1 c2 hn
     have z0:(IE.lit 0).den J=0:=rfl
     simp only[X.den,PX,hg,z0,Int.toNat_zero,Nat.zero_mul]
     rw[if_pos ⟨trivial,g4⟩]
     simp only[apS]
     rw[if_pos ⟨by rw[kG hw,Nat.zero_add],uw hone,by rw[<-hl];exact c1,by rw[<-hl];exact c2⟩,List.drop_zero,hn,hl]
     rfl
    ·cases hv
   ·obtain⟨Φ1,hk1,c1,hv⟩:=aS hk hv
    obtain⟨Φ2,hk2,c2,hv⟩:=aS hk1 hv
    obtain⟨Φ3,hk3,c3,hv⟩:=aS hk2 hv
    have c1:=bf c1
    rw[cZ]at c2
    have c2:=of_decide_eq_true c2
    have c3:=bf c3
    rw[bK]at c2
    have z0:(IE.lit 0).den J=0:=rfl
    rw[z0]at c1 c3
    have c1:0<=off.den J:=by omega
    have c3:0<=len.den J:=by omega
    split at hv
    ·rename_i gs hgs
     have hgd:=Rows.toR_den (J:=J) hgs
     have hcd:=Rows.cut_den (l:=l) hk3 c1 c3 c2
     obtain⟨Φ',_,la,lb,d1,d2,hv⟩:=oz hk3 hv
     split at hv
     ·rename_i hone
      have hn:=pY la lb (di hv)
      have hl:((aC J n' l).drop (off.den J).toNat).length=(len.den J).toNat:=by rw[List.length_drop,gy];omega
      have hone:=uw (J:=J) hone
      rw[hcd.1,hgd.1,hl]at d1 d2 hn
      rw[hgd.1]at hone
      simp only[X.den,PX,hg]
      rw[if_pos ⟨trivial,g4⟩]
      simp only[apS]
      have hfl:(aC J n' l).flatten.length=(off.den J).toNat*w'+(len.den J).toNat*w':=by rw[kG hw,<-Nat.add_mul];congr 1;omega
      rw[if_pos ⟨hfl,hone,d1,d2⟩,o8 _ _ (fun j e h=>qM hw j e h),hn]
      rfl
     ·cases hv
    ·cases hv
  ·cases hv
 ·cases hv
theorem aL5 {P:Program} {J:Rho} {n z:Nat} {mu:Bool} {e:TypeId} {h:bg} {Φ:Facts} (hk:Facts.ok J Φ) {cs:List X} {fs:Rows} {m:Nm} {w off len:Nat} {own:Bool} {r:X×dR} (hg:xk h m=some cs) (hv:(apC n z (dA P e) Φ cs fs m w off len own).sel J=some r) :
  PX P n (aV J h) mu e z (.sl m w off len own) (some (fs.den J))=some (r.1.den J,bZ J r.2):=by
 unfold apC at hv
 split at hv
 ·rename_i hc
  simp only[Bool.and_eq_true]at hc
  obtain⟨g1,g3,g4⟩:=hc
  have g1:=Nat.eq_of_beq_eq_true g1
  have g4:=Nat.eq_of_beq_eq_true g4
  subst g1
  obtain⟨Φ',_,la,lb,c1,c2,hv⟩:=oz hk hv
  split at hv
  ·rename_i hone
   have hn:=pY la lb (di hv)
   have hcl:(X.denL J cs).length=off+len*w:=by rw[X.denL_len];exact g4
   have hf:(X.denE J (pF w len (cs.drop off))).flatten=(X.denL J cs).drop off:=by rw[mF,X.denL_drop];exact kD w len _ (by rw[List.length_drop,hcl];omega)
   have hl:(X.denE J (pF w len (cs.drop off))).length=len:=by rw[mF,gq]
   simp only[Rows.den,hf,hl]at c1 c2 hn
   simp only[PX,oJ hg]
   rw[if_pos ⟨trivial,g3⟩]
   simp only[apS]
   rw[if_pos ⟨hcl,uw hone,c1,c2⟩,hn]
   rfl
  ·cases hv
 ·cases hv
def apT (n z b:Nat) (Φ:Facts) (m:Nm) (w:Nat) (off len:IE) (own:Bool) (z':Nat) (k:IE) (t:Nat) (es:List (List X)):Rows->T (X×dR)
 | .c fs=>if(Nat.beq w z&&(Nat.beq z' z&&(own&&(off.beq (.lit 0)&&(len.beq (fC k (.lit es.length))&&(es.all (fun e=>Nat.beq e.length z)&&(jb fs).all X.one))))))=true then
   EL Φ (.r k (.one [])) (.c (es++fs)) b fun _ => .ret (.slv (n,0) z (.lit 0) (fC k (.lit (es.length+fs.length:Nat))) true,[(m,none),((n,0),some [.tk z k t (es++fs)])])
  else (.fail ["apT"])
 | _ => (.fail ["apT"])
theorem aL4 {P:Program} {J:Rho} {n z:Nat} {mu:Bool} {e:TypeId} {h:bg} {Φ:Facts} (hk:Facts.ok J Φ) {fs:Rows} {m:Nm} {w:Nat} {off len:IE} {own:Bool} {z':Nat} {k:IE} {t:Nat} {es:List (List X)} {r:X×dR} (hg:aT h m=some [.tk z' k t es]) (hv:(apT n z (dA P e) Φ m w off len own z' k t es fs).sel J=some r) :
  PX P n (aV J h) mu e z ((X.slv m w off len own).den J) (some (fs.den J))=some (r.1.den J,bZ J r.2):=by
 unfold apT at hv
 split at hv
 ·rename_i fs
  split at hv
  ·rename_i hc
   simp only[Bool.and_eq_true]at hc
   obtain⟨g1,g2,g3,g4,g5,g6,g7⟩:=hc
   have g1:=Nat.eq_of_beq_eq_true g1
   have g2:=Nat.eq_of_beq_eq_true g2
   have g4:=IE.beq_eq _ _ g4
   have g5:=IE.beq_eq _ _ g5
   subst g1 g2 g4 g5
   obtain⟨Φ',_,la,lb,c1,c2,hv⟩:=oz hk hv
   cases hv
   have la:0<=k.den J:=la
   have hl2:(X.denE J fs).length=fs.length:=by simp[X.denE_eq]
   have hT:(bD J z' k t).length=(k.den J).toNat:=by unfold bD;rw[List.length_map,List.length_range]
   have hE:(X.denE J es).length=es.length:=by simp[X.denE_eq]
   have hR:(aC J k (.one [])).length=(k.den J).toNat:=gy J k _
   have hEF:X.denE J (es++fs)=X.denE J es++X.denE J fs:=by simp[X.denE_eq]
   have hn:((fC k (.lit es.length)).den J).toNat=(k.den J).toNat+es.length:=by rw[bK];simp only[IE.den];omega
   have hn2:((fC k (.lit (es.length+fs.length:Nat))).den J).toNat=(k.den J).toNat+es.length+fs.length:=by rw[bK];simp only[IE.den];omega
   simp only[Rows.den,hEF,List.length_append,hR,hE,hl2]at c1 c2
   have z0:(IE.lit 0).den J=0:=rfl
   have hget:hget (aV J h) m=some (bD J z' k t++X.denE J es).flatten:=by rw[aG,hg];rfl
   simp only[X.den,PX,hget,z0,Int.toNat_zero,Nat.zero_mul,Rows.den]
   rw[if_pos ⟨trivial,g3⟩]
   simp only[apS,hl2]
   have hfl:(bD J z' k t++X.denE J es).flatten.length=((k.den J).toNat+es.length)*z':=by
    rw[flat_length _ (fun j e h=>P9 g6 j e h),List.length_append,hT,hE]
   rw[if_pos ⟨by rw[hfl,hn,Nat.zero_add],by rw[<-jS];exact X.all_one J _ g7,by rw[hn,Nat.add_assoc];exact c1,by rw[hn,Nat.add_assoc];exact c2⟩]
   simp only[hn,hn2,bZ,List.map_cons,List.map_nil,Option.map_some,Option.map_none,aF,hEF,List.drop_zero,List.flatten_append,List.append_assoc]
  ·cases hv
 ·cases hv
def bn4 (n:Nat) (mu:Bool) (z b:Nat) (h:bg) (Φ:Facts) (fs:Rows):X->T (X×dR)
 | .sl m w off len own=>match xk h m,fs with
  | some cs,.c fs=>lL (bn3 n z b m w off len own cs fs)
  | some cs,fs=>apC n z b Φ cs fs m w off len own
  | _,_=>(.fail [])
 | .slv m w off len own=>match aT h m with
  | some [.tk z' k t es]=>apT n z b Φ m w off len own z' k t es fs
  | _=>apV n z b h Φ fs m w off len own
 | s=>match Pj z s with
  | some es=>Si n mu z b Φ es fs
  | none=>(.fail [])
theorem ap3 {P:Program} {n:Nat} {h:Hp} {mu:Bool} {e:TypeId} {z:Nat} {s:AV} {fs:List (List AV)} (hs:∀m w off len own,s ≠ .sl m w off len own):PX P n h mu e z s (some fs)=apO n mu z (dA P e) fs (jX z s):=by
 cases s<;>first | rfl | exact absurd rfl (hs _ _ _ _ _)
theorem ap1 {P:Program} {J:Rho} {n z:Nat} {mu:Bool} {e:TypeId} {h:bg} {Φ:Facts} (hk:Facts.ok J Φ) {fs:Rows} {s:X} {r:X×dR} (hv:(bn4 n mu z (dA P e) h Φ fs s).sel J=some r) :
  PX P n (aV J h) mu e z (s.den J) (some (fs.den J))=some (r.1.den J,bZ J r.2):=by
 unfold bn4 at hv
 split at hv
 ·split at hv
  ·exact ap0 (by assumption) (di hv)
  ·exact aL5 hk (by assumption) hv
  ·cases hv
 ·split at hv
  ·exact aL4 hk (by assumption) hv
  ·exact aL3 hk hv
 ·rename_i hs hs2
  rw[ap3 (fun m w off len own hh=>by
   cases s with
   | sl _ _ _ _ _=>exact hs _ _ _ _ _ rfl
   | slv _ _ _ _ _=>exact hs2 _ _ _ _ _ rfl
   | gd c x=>simp[Pj,T.sel]at hv
   | cel _ _ _=>simp[Pj,T.sel]at hv
   | _=>simp only[X.den,reduceCtorEq]at hh)]
  split at hv
  ·rename_i es hes
   rw[Yd hes]
   exact RZ hk hv
  ·cases hv
def bn2 (n:Nat) (mu:Bool) (i ix:TI) (ti:Nat->Option TI) (h:bg) (Φ:Facts) (s x:X):T (X×dR) :=
 match i.sl,ix.sl with
 | some (e,z),some (e',z')=>match ti e with
  | some ie=>if(Nat.beq e e'&&(Nat.beq z z'&&at6 ie z))=true then
    (F6 h Φ z x).bind Φ fun Φ fs=>bn4 n mu z ie.by_ h Φ fs s
   else(.fail [])
  | none=>(.fail [])
 | _,_=>(.fail [])
theorem ao9 {P:Program} {J:Rho} {n:Nat} {mu:Bool} {ty xt:TypeId} {ti:Nat->Option TI} (hti:TIs.ok P ti) {h:bg} {Φ:Facts} (hk:Facts.ok J Φ) {s x:X} {r:X×dR}
  (hv:(bn2 n mu (fZ P ty) (fZ P xt) ti h Φ s x).sel J=some r):lK P n (aV J h) mu ty xt (s.den J) (x.den J)=some (r.1.den J,bZ J r.2):=by
 unfold bn2 at hv
 split at hv
 ·rename_i e z e' z' h1 h2
  have h1':jU P ty=some (e,z):=h1
  have h2':jU P xt=some (e',z'):=h2
  split at hv
  ·rename_i ie hie
   have hie:=hti _ _ hie
   subst hie
   split at hv
   ·rename_i hc
    simp only[Bool.and_eq_true]at hc
    have he:=Nat.eq_of_beq_eq_true hc.1
    have hz:=Nat.eq_of_beq_eq_true hc.2.1
    subst he hz
    simp only[lK,h1',h2',SG hc.2.2]
    rw[if_pos ⟨trivial,trivial⟩]
    obtain⟨Φ',fs,hk',hf,hv⟩:=T.sel_bind _ hk hv
    rw[FZ hk hf]
    exact ap1 hk' hv
   ·cases hv
  ·cases hv
 ·cases hv
def an3 (i:TI) (h:bg) (s x:X):Option (X×dR) :=
 match i.sl with
 | some (_,z)=>match s,Ll h z x with
  | .sl m w off len _,some (.c fs)=>match xk h m with
   | some cs=>if(Nat.beq w z&&(Nat.ble fs.length len&&(Nat.ble (off+fs.length*z) cs.length&&((jb fs).all X.one && !aZ (pV cs off (jb fs))))))=true then
     some (.sc (.i .i64 (.lit fs.length)),[(m,some (pV cs off (jb fs)))])else none
   | none=>none
  | _,_=>none
 | none=>none
theorem X9 {P:Program} {J:Rho} {ty:TypeId} {h:bg} {s x:X} {r:X×dR} (hv:an3 (fZ P ty) h s x=some r):copyN P (aV J h) ty (s.den J) (x.den J)=some (r.1.den J,bZ J r.2):=by
 unfold an3 at hv
 split at hv
 ·rename_i e z hs
  have hs':jU P ty=some (e,z):=hs
  split at hv
  ·rename_i m w off len own fs he
   split at hv
   ·rename_i cs hg
    split at hv
    ·rename_i hc
     simp only[Bool.and_eq_true,Nat.ble_eq]at hc
     obtain⟨g1,g2,g3,g4,g5⟩:=hc
     have g1:=Nat.eq_of_beq_eq_true g1
     subst g1
     cases hv
     have hl:(X.denE J fs).length=fs.length:=by simp[X.denE_eq]
     have he':=FY (J:=J) he
     simp only[copyN,hs',he',Rows.den,X.den,oJ hg,hl,X.denL_len,<-jS]
     rw[if_pos ⟨trivial,g2,g3,X.all_one J _ g4⟩]
     simp only[Sc.den,IE.den,bZ,List.map_cons,List.map_nil,Option.map_some,bC (J:=J) (show aZ (pV cs off (jb fs))=false by simpa using g5),pU]
    ·cases hv
   ·cases hv
  ·cases hv
 ·cases hv
end Go.Proofs.Xw
namespace Go.Proofs.Xw
open Go Go.Proofs.Aw
def nO (g:Nat->X):Operand->X
 | .tmp i=>g i
 | .const v=>WT v
 | .global a => .k (.pointer (some ⟨a,0,none⟩))
 | .func f => .fn (.func f) [] []
def Rk (g:Nat->X):List Operand->List X
 | []=>[]
 | x::xs=>nO g x::Rk g xs
def ak2 (g:Nat->X):List (Nat×Operand)->List (Nat×X)
 | []=>[]
 | (i,x)::xs=>(i,nO g x)::ak2 g xs
section
variable {J:Rho} {g:Nat->X} {t:Tp} (hg:∀i,(g i).den J=dX t i)
include hg
theorem dL (x:Operand):(nO g x).den J=ev t x:=by
 cases x with
 | tmp i=>exact hg i
 | const v=>exact Ur J v
 | global a=>rfl
 | func f=>simp only[nO,X.den,X.denL,ev]
theorem zL:∀l:List Operand,X.denL J (Rk g l)=evL t l
 | []=>rfl
 | x::xs=>by simp only[Rk,X.denL,evL,dL hg x,zL xs]
theorem FT:∀l:List (Nat×Operand),CW J (ak2 g l)=evP t l
 | []=>rfl
 | (i,x)::xs=>by
  have:=FT xs
  simp only[CW]at this
  simp only[ak2,CW,List.map_cons,evP,dL hg x,this]
end
inductive XR where
 | ok (r:X) (d:dR)
 | call (f:FuncId) (args:List X)
def strip (Φ:Facts):X->X
 | .gd c x=>match red Φ c with
  | .lit true=>x
  | .lit false => .k undef
  | _ => .gd c x
 | x=>x
theorem Ah {J:Rho} {Φ:Facts} (hk:Facts.ok J Φ) (x:X):(strip Φ x).den J=x.den J:=by
 unfold strip
 split
 ·rename_i c x
  have hr:=bu hk c
  split
  ·rename_i hd;rw[hd]at hr;simp only[X.den,<-hr,BE.den,if_true]
  ·rename_i hd;rw[hd]at hr;simp only[X.den,<-hr,BE.den];rfl
  ·rfl
 ·rfl
def Z7 (Φ:Facts):X->X->X->Option X
 | .sc (.b e),a,b=>match red Φ e with
  | .lit true=>some a
  | .lit false=>some b
  | d=>X.mix d (strip (assume d true Φ) a) (strip (assume d false Φ) b)
 | _,_,_=>none
theorem V9 {J:Rho} {Φ:Facts} (hk:Facts.ok J Φ) {c a b v:X} (h:Z7 Φ c a b=some v):Ih (c.den J) (a.den J) (b.den J)=some (v.den J):=by
 unfold Z7 at h
 split at h
 ·rename_i e
  have hr:=bu hk e
  split at h
  ·rename_i hd;cases h;rw[hd]at hr;simp only[X.den,Sc.den,<-hr,BE.den,Ih]
  ·rename_i hd;cases h;rw[hd]at hr;simp only[X.den,Sc.den,<-hr,BE.den,Ih]
  ·rw[X.mix_den _ _ _ h]
   simp only[X.den,Sc.den]
   by_cases hd:BE.den J (red Φ e)=true
   ·rw[if_pos hd,Ah (dC _ true Φ hd hk),<-hr,hd];rfl
   ·have hd':BE.den J (red Φ e)=false:=by simpa using hd
    rw[if_neg hd,Ah (dC _ false Φ hd' hk),<-hr,hd'];rfl
 ·cases h
def ba7 (h:bg):X->Option X
 | .ptr n az d=>if lN h n=true then some (.ptr n az d)else none
 | .ip cs az d=>some (.ip cs az d)
 | .fn (.func f) xs ys=>some (.fn (.func f) xs ys)
 | _=>none
theorem ac5 {J:Rho} {h:bg} {x v:X} (hv:ba7 h x=some v):QF (aV J h) (x.den J)=some (v.den J):=by
 unfold ba7 at hv
 split at hv
 ·split at hv
  ·rename_i ho;cases hv;simp only[X.den,QF,fB ho,if_true]
  ·cases hv
 ·cases hv;simp only[X.den,QF]
 ·cases hv;simp only[X.den,QF]
 ·cases hv
def zg:BinOp->Bool->Option X
 | .eql,b=>some (.sc (.b (.lit b)))
 | .neq,b=>some (.sc (.b (.lit (!b))))
 | _,_=>none
theorem l7 {J:Rho} {op:BinOp} {b:Bool} {v:X} (h:zg op b=some v):AO op b=some (v.den J):=by
 unfold zg at h
 split at h<;>first | cases h | skip
 ·rfl
 ·rfl
def Kz (t:TI) (h:bg) (op:BinOp) (x:X):Option X :=
 match t.sl with
 | some _=>match x with
  | .sl m _ _ _ _=>if lN h m=true then zg op false else none
  | .slv m _ _ _ _=>if lN h m=true then zg op false else none
  | .ro _ (_::_) _=>zg op false
  | .k (.slice none 0 0)=>zg op true
  | _=>none
 | none=>none
theorem N9 {P:Program} {J:Rho} {ty:TypeId} {h:bg} {op:BinOp} {x v:X} (hv:Kz (fZ P ty) h op x=some v):kV P (aV J h) op ty (x.den J) (.sc (.slice none 0 0))=some (v.den J):=by
 unfold Kz at hv
 split at hv
 ·rename_i p hs
  have hs':jU P ty=some p:=hs
  have e:∀y,qC P op ty y (.sc (.slice none 0 0))=none:=fun y=>by
   unfold qC
   split<;>simp_all
  unfold kV
  rw[e]
  simp only[xG,hs']
  split at hv
  ·split at hv
   ·rename_i hm
    simp only[X.den]
    rw[if_pos (fB hm)]
    exact l7 hv
   ·cases hv
  ·split at hv
   ·rename_i hm
    simp only[X.den]
    rw[if_pos (fB hm)]
    exact l7 hv
   ·cases hv
  ·simp only[X.den,X.denE]
   exact l7 hv
  ·simp only[X.den]
   exact l7 hv
  ·cases hv
 ·cases hv
def KA (t:TI) (h:bg) (Φ:Facts) (op:BinOp):X->T X
 | .rl _ n _ _=>match t.sl with
  | some _=>want Φ (.lt (.lit 0) n) fun _=>lL (zg op false)
  | none => .fail []
 | x=>lL (Kz t h op x)
theorem Qw {J:Rho} {n:IE} {l:RL} (h:0<n.den J):∃a b,aC J n l=a::b:=by
 unfold aC
 obtain⟨m,hm⟩:∃m,(n.den J).toNat=m+1:=⟨(n.den J).toNat-1,by omega⟩
 rw[hm,List.range_succ_eq_map]
 exact⟨_,_,rfl⟩
theorem Oa {P:Program} {J:Rho} {ty:TypeId} {h:bg} {Φ:Facts} {op:BinOp} {x v:X} (hk:Facts.ok J Φ) (hv:(KA (fZ P ty) h Φ op x).sel J=some v):kV P (aV J h) op ty (x.den J) (.sc (.slice none 0 0))=some (v.den J):=by
 unfold KA at hv
 split at hv
 ·split at hv
  ·rename_i p hs
   have hs':jU P ty=some p:=hs
   have e:∀y,qC P op ty y (.sc (.slice none 0 0))=none:=fun y=>by
    unfold qC
    split<;>simp_all
   obtain⟨_,_,hc,hv⟩:=aS hk hv
   simp only[BE.den,IE.den]at hc
   obtain⟨a,b,hab⟩:=Qw (of_decide_eq_true hc)
   unfold kV
   rw[e]
   simp only[xG,hs',X.den]
   rw[hab]
   exact l7 (di hv)
  ·cases hv
 ·exact N9 (di hv)
def J8 (t:TI) (h:bg) (op:BinOp) (x:X):Option X :=
 match t.pt with
 | true=>match x with
  | .ptr m _ _=>if lN h m=true then zg op false else none
  | .k (.pointer none)=>zg op true
  | _=>none
 | false=>none
theorem NL {P:Program} {J:Rho} {ty:TypeId} {h:bg} {op:BinOp} {x v:X} (hv:J8 (fZ P ty) h op x=some v):kV P (aV J h) op ty (x.den J) (.sc (.pointer none))=some (v.den J):=by
 unfold J8 at hv
 split at hv
 ·rename_i hs
  have hs':ptT P ty=true:=hs
  have e:∀y,qC P op ty y (.sc (.pointer none))=none:=fun y=>by
   unfold qC
   split<;>simp_all
  unfold kV
  rw[e]
  simp only[xG,hs']
  split at hv
  ·split at hv
   ·rename_i hm
    simp only[X.den]
    rw[if_pos (fB hm)]
    exact l7 hv
   ·cases hv
  ·simp only[X.den]
   exact l7 hv
  ·cases hv
 ·cases hv
def ae1 (n:Nat) (i:TI) (ti:Nat->Option TI) (Φ:Facts):X->X->T (X×dR)
 | .sc (.i _ a),.sc (.i _ b)=>match i.sl with
  | some (e,z)=>match ti e with
   | some ie=>match ie.zero with
    | some zs=>if(Nat.beq zs.length z&&a.beq b)=true then
      want Φ (mkNot (eU a (.lit 0))) fun Φ=>want Φ (mkNot (eU (.lit (Gp ie.by_)) a)) fun _ =>
       match a with
       | .lit m => if aZ (jb (List.replicate m.toNat (zs.map WT))) = true then (.fail ["make"]) else .ret (.sl (n, 0) z 0 m.toNat true, [((n, 0), some (jb (List.replicate m.toNat (zs.map WT))))])
       | a=>match uk (zs.map WT)with
        | some r => if Nat.beq r.length z = true then .ret (.slv (n, 0) z (.lit 0) a true, [((n, 0), some [.rows z a (.one r)])]) else (.fail ["make"])
        | none => (.fail ["make"])
     else (.fail ["make"])
    | none => (.fail ["make"])
   | none => (.fail ["make"])
  | none => (.fail ["make"])
 | _, _ => (.fail ["make"])
theorem D7 (zc:List AV):∀m:Nat,zeros m zc=(List.replicate m zc).flatten
 | 0=>rfl
 | m+1=>by simp only[zeros,List.replicate_succ,List.flatten_cons,D7 zc m]
theorem VX {J:Rho} {a:IE} {r:List Sc}:aC J a (.one r)=List.replicate (a.den J).toNat (mQ J r):=by
 apply List.ext_getElem?
 intro j
 by_cases hj:j<(a.den J).toNat
 ·rw[gB (by omega),List.getElem?_replicate,if_pos hj];rfl
 ·rw[List.getElem?_eq_none (by rw[gy];omega),List.getElem?_replicate,if_neg hj]
theorem Xu {P:Program} {J:Rho} {n:Nat} {ty:TypeId} {ti:Nat->Option TI} (hti:TIs.ok P ti) {Φ:Facts} (hk:Facts.ok J Φ) {x y:X} {r:X×dR} (h:(ae1 n (fZ P ty) ti Φ x y).sel J=some r) :
  jG P n ty (x.den J) (y.den J)=some (r.1.den J,bZ J r.2):=by
 unfold ae1 at h
 split at h
 ·rename_i k a k' b
  split at h
  ·rename_i e z hs
   have hs':jU P ty=some (e,z):=hs
   split at h
   ·rename_i ie hie
    have hie:=hti _ _ hie
    subst hie
    split at h
    ·rename_i zs hzs
     have hz:jk P e=some (zs.map AV.sc):=by rw[yE];have:zeroV P e=some zs:=hzs;rw[this];rfl
     split at h
     ·rename_i hc
      simp only[Bool.and_eq_true]at hc
      have hl:=Nat.eq_of_beq_eq_true hc.1
      have hab:=IE.beq_eq _ _ hc.2
      subst hab
      obtain⟨Φ1,hk1,c1,h⟩:=aS hk h
      obtain⟨Φ2,hk2,c2,h⟩:=aS hk1 h
      have c1:=bf c1
      have c2:=bf c2
      simp only[IE.den]at c1 c2
      have hby:(fZ P e).by_=dA P e:=rfl
      rw[hby]at c2
      have hcap:=wL (b:=dA P e) (n:=(a.den J).toNat) (by omega)
      have key:jG P n ty ((X.sc (.i k a)).den J) ((X.sc (.i k' a)).den J)=some (.sl (n,0) z 0 (a.den J).toNat true,[((n,0),some (List.replicate (a.den J).toNat (zs.map AV.sc)).flatten)]):=by
       simp only[X.den,Sc.den,jG,hs',hz]
       rw[if_pos ⟨by rw[List.length_map];exact hl,by omega,trivial,hcap.1,by omega⟩,D7]
      rw[key]
      cases a with
      | lit m =>
       simp only at h
       split at h
       ·cases h
       ·rename_i hr
        cases h
        have he:X.denE J (List.replicate m.toNat (zs.map WT))=List.replicate m.toNat (zs.map AV.sc):=by
         rw[X.denE_eq,List.map_replicate,y9]
        simp only[X.den,IE.den,bZ,List.map_cons,List.map_nil,Option.map_some,bC (J:=J) (show aZ (jb (List.replicate m.toNat (zs.map WT)))=false by simpa using hr),jS,he]
      | _ =>
       simp only at h
       split at h
       ·rename_i q hq
        split at h
        ·cases h
         have hq':=ou (J:=J) hq
         rw[y9]at hq'
         simp only[X.den,IE.den,Int.toNat_zero,Nat.zero_mul,bZ,List.map_cons,List.map_nil,Option.map_some,aF,VX,hq']
        ·cases h
       ·cases h
     ·cases h
    ·cases h
   ·cases h
  ·cases h
 ·cases h
def one1 (o:Option X):T XR:=lL (o.map fun v => .ok v [])
def GX (t:T X):T XR:=t.map fun v => .ok v []
def GR (ti:Nat->Option TI) (t:Nat) (k:TI->T XR):T XR:=match ti t with
 | some i=>k i
 | none=>(.fail [])
def ae7 (i:TI) (h:bg) (Φ:Facts):X->T X
 | .ptrv m z j o=>UL i h Φ m z j o
 | x=>lL (UK i h x)
theorem XA {P:Program} {J:Rho} {ty:TypeId} {h:bg} {Φ:Facts} {x v:X} (hk:Facts.ok J Φ) (hv:(ae7 (fZ P ty) h Φ x).sel J=some v):uM P (aV J h) ty (x.den J)=some (v.den J):=by
 unfold ae7 at hv
 split at hv
 ·exact XB hk hv
 ·exact IK (di hv)
def Qe (i:TI) (h:bg) (Φ:Facts) (x:X) (ys:List X):T dR :=
 match x with
 | .ptrv m z j o=>JK i h Φ m z j o ys
 | x=>lL (Qc i h x ys)
theorem Qd {P:Program} {J:Rho} {ty:TypeId} {h:bg} {Φ:Facts} {x:X} {ys:List X} {d:dR} (hk:Facts.ok J Φ) (hv:(Qe (fZ P ty) h Φ x ys).sel J=some d):ys.all X.one=true/\qo P (aV J h) ty (x.den J) (X.denL J ys)=some (bZ J d):=by
 unfold Qe at hv
 split at hv
 ·exact Qg hk hv
 ·exact Qb (di hv)
def uS (i:TI) (h:bg) (Φ:Facts) (x y:X):T X :=
 match x,y with
 | .slv m z off len _,.sc (.i _ e)=>ai0 i h Φ m z off len e
 | .ptrv m z j o,.sc (.i _ (.lit e))=>match i.arr with
  | some (len, z') => if (lN h m && (decide (0 <= e) && decide (e < len))) = true then .ret (.ptrv m z j (o + e.toNat * z')) else (.fail ["uS"])
  | none => (.fail ["uS"])
 | x,y=>Fj i h Φ x y
theorem KP {P:Program} {J:Rho} {ty:TypeId} {h:bg} {Φ:Facts} {x y v:X} (hk:Facts.ok J Φ) (hv:(uS (fZ P ty) h Φ x y).sel J=some v):fQ P (aV J h) ty (x.den J) (y.den J)=some (v.den J):=by
 unfold uS at hv
 split at hv
 ·exact ah9 hk hv
 ·split at hv
  ·rename_i m z j o k e len z' ha
   have ha':lJ P ty=some (len,z'):=ha
   split at hv
   ·rename_i hc
    simp only[Bool.and_eq_true,decide_eq_true_eq]at hc
    cases hv
    simp only[X.den,Sc.den,IE.den,fQ,ha',iaP,fB hc.1]
    rw[if_pos ⟨trivial,hc.2.1,hc.2.2⟩]
    congr 2
    omega
   ·cases hv
  ·cases hv
 ·exact KO hk hv
def aw0 (i:TI):X->IE
 | .slv _ _ _ len _=>len
 | x=>GN i x
def slW (i:TI) (h:bg) (Φ:Facts) (x:X) (lo hi:IE) (hn:Bool):T X :=
 match x with
 | .slv m z off len own=>Em i h Φ m z off len own lo hi
 | x=>slX i h Φ x lo hi hn
theorem ay0 {P:Program} {J:Rho} {ty:TypeId} {h:bg} {Φ:Facts} {x v:X} {lo hi:Option X} {l r:IE} (hk:Facts.ok J Φ) (hl:Gt lo (.lit 0)=some l) (hr:Gt hi (aw0 (fZ P ty) x)=some r)
  (hv:(slW (fZ P ty) h Φ x l r hi.isNone).sel J=some v):∃w,qp P (aV J h) ty (x.den J) (lo.map (X.den J)) (hi.map (X.den J)) none=some w/\LeA (v.den J) w:=by
 unfold slW at hv
 split at hv
 ·exact⟨_,Qj hk hl hr hv,LeA.refl _⟩
 ·rename_i hx
  refine ax9 hk hl ?_ hv
  have:aw0 (fZ P ty) x=GN (fZ P ty) x:=by
   unfold aw0
   split
   ·exact absurd rfl (hx _ _ _ _ _)
   ·rfl
  rw[<-this];exact hr
def bd5 (i:TI) (h:bg) (Φ:Facts):X->T X
 | .slv m _ _ len _=>lenV i h Φ m len
 | x=>bd4 i h Φ x
theorem af7 {P:Program} {J:Rho} {ty:TypeId} {h:bg} {Φ:Facts} {x v:X} (hk:Facts.ok J Φ) (hv:(bd5 (fZ P ty) h Φ x).sel J=some v):AY (uN P (aV J h) ty (x.den J))=some (v.den J):=by
 unfold bd5 at hv
 split at hv
 ·exact af8 hk hv
 ·exact af6 hk hv
def Zj (ti:Nat->Option TI) (n:Nat) (mu:Bool) (g:Nat->X) (h:bg) (Φ:Facts):Op->T XR
 | .move x => .ret (.ok (nO g x) [])
 | .assign x => .ret (.ok (nO g x) [])
 | .pick c a b=>one1 (Z7 Φ (nO g c) (nO g a) (nO g b))
 | .alloc e=>GR ti e fun i=>lL (i.zero.bind fun zs=>if aZ (zs.map WT)=true then none else some (.ok (.ptr (n,0) [] 0) [((n,0),some (zs.map WT))]))
 | .box _ x=>if(nO g x).cells.all X.one=true then .ret (.ok (.ptr (n,0) [] 0) [((n,0),some (nO g x).cells)])else(.fail [])
 | .load ty x=>GR ti ty fun i=>GX (ae7 i h Φ (nO g x))
 | .store ty x y=>GR ti ty fun i=>(Qe i h Φ (nO g x) (nO g y).cells).map fun d => .ok (.k undef) d
 | .nilCheck x=>one1 (ba7 h (nO g x))
 | .indexAddr ty x i=>GR ti ty fun t=>GX (uS t h Φ (nO g x) (nO g i))
 | .fieldAddr ty x f=>GR ti ty fun t=>one1 (xU t h f (nO g x))
 | .field ty x f=>GR ti ty fun t=>one1 (Q7 t f (nO g x))
 | .index ty x i=>GR ti ty fun t=>GX (QX t Φ (nO g x) (nO g i))
 | .slice ty x lo hi none=>GR ti ty fun t=>match Gt (lo.map (nO g)) (.lit 0),Gt (hi.map (nO g)) (aw0 t (nO g x))with
  | some l,some r=>GX (slW t h Φ (nO g x) l r hi.isNone)
  | _,_=>(.fail [])
 | .slice ty x lo (some hi) (some mx)=>GR ti ty fun t=>one1 (aX6 t h (nO g x) (lo.map (nO g)) (nO g hi) (nO g mx))
 | .binOp op ty x y _=>GR ti ty fun t=>match nO g y with
  | .k (.slice none 0 0)=>GX (KA t h Φ op (nO g x))
  | .k (.pointer none)=>one1 (J8 t h op (nO g x))
  | _=>GX (bn0 t Φ op (nO g x) (nO g y))
 | .unOp op _ x=>GX (unX Φ op (nO g x))
 | .convert src dst x=>GR ti src fun s=>GR ti dst fun t=>GX (an4 Φ s t (nO g x))
 | .extract x i=>match nO g x with
  | .tup vs=>one1 vs[i]?
  | _=>(.fail [])
 | .makeFunc f xs ys => .ret (.ok (.fn f (Rk g xs.toList) (Rk g ys.toList)) [])
 | .build ty ps=>GR ti ty fun t=>one1 (RS t (ak2 g ps.toList))
 | .buildSlice ty len ps=>GR ti ty fun t=>lL ((vg n mu t ti len (ak2 g ps.toList)).map fun p => .ok p.1 p.2)
 | .makeSlice ty l c=>GR ti ty fun t=>(ae1 n t ti Φ (nO g l) (nO g c)).map fun p => .ok p.1 p.2
 | .call ⟨.builtin b,args,tys⟩=>match b,tys.toList,Rk g args.toList with
  | .len,ty::_,x::_=>GR ti ty fun t=>GX (bd5 t h Φ x)
  | .max,_,x::xs=>one1 (ae0 x xs)
  | .min,_,x::xs=>one1 (ad8 x xs)
  | .append,[ty,xt],[s,x]=>GR ti ty fun t=>GR ti xt fun t'=>(bn2 n mu t t' ti h Φ s x).map fun p => .ok p.1 p.2
  | .copy,[ty,_],[s,x]=>GR ti ty fun t=>lL ((an3 t h s x).map fun p => .ok p.1 p.2)
  | b,_,xs=>one1 (O4 b xs)
 | .call ⟨.value x,args,_⟩=>match nO g x with
  | .fn (.func f) xs ys => .ret (.call f (xs++(Rk g args.toList++ys)))
  | _=>(.fail [])
 | _=>(.fail [])
theorem ak {P:Program} {n:Nat} {mu:Bool} {op:Op} {t:Tp} {h:Hp} {r:AV} {d:Dl} (he:dH P n mu t h op = .ok r d):Aw.Yields P n op t h r d:=by
 obtain⟨r',d',hy,h1,h2⟩:=um (TJ (K:=fun a b=>a=r/\b=d) he ⟨rfl,rfl⟩)
 subst h1 h2;exact hy
theorem Yj {P:Program} {n:Nat} {op:Op} {t:Tp} {h:Hp} {r r':AV} {d:Dl} (hy:Aw.Yields P n op t h r d) (hl:LeA r' r):Aw.Yields P n op t h r' d:=by
 intro C a o next Q ho hh ht hn hk
 refine hy C a o next Q ho hh ht hn fun u C' hp=>hk u C' ?_
 exact⟨hp.le,hp.kn,hp.heap,hl _ _ hp.val,hp.same,hp.mt,hp.os,hp.tape,hp.output,hp.orig,hp.names⟩
theorem Py {P:Program} {n:Nat} {mu:Bool} {op:Op} {t:Tp} {h:Hp} {r r':AV} {d:Dl} (he:dH P n mu t h op = .ok r d) (hl:LeA r' r):Aw.Yields P n op t h r' d:=Yj (ak he) hl
def XR.shows (J:Rho) (P:Program) (n:Nat) (mu:Bool) (op:Op) (t:Tp) (h:Hp):XR->Prop
 | .ok r d=>Aw.Yields P n op t h (r.den J) (bZ J d)
 | .call f args=>dH P n mu t h op = .call f (X.denL J args)
theorem gm {P:Program} {J:Rho} {ti:Nat->Option TI} (hti:TIs.ok P ti) {t:Nat} {k:TI->T XR} {a:XR} (h:(GR ti t k).sel J=some a):(k (fZ P t)).sel J=some a:=by
 unfold GR at h
 split at h
 ·rename_i i hi;rw[hti _ _ hi]at h;exact h
 ·cases h
theorem jy {J:Rho} {o:Option X} {a:XR} (h:(one1 o).sel J=some a):∃v,o=some v/\a = .ok v []:=by
 obtain⟨v,h1,h2⟩:=Option.map_eq_some_iff.1 (di h)
 exact⟨v,h1,h2.symm⟩
theorem kY {J:Rho} {o:T X} {a:XR} (h:(GX o).sel J=some a):∃v,o.sel J=some v/\a = .ok v []:=T.sel_map o h
theorem LM {P:Program} {n:Nat} {mu:Bool} {h:Hp} {b:Builtin} {tys:List TypeId} {l:List X} {xs:List AV} {v:X} {r:AV} (hv:O4 b l=some v) (hb:Ry b xs=some r):jd P n mu h b tys xs = .ok r []:=by
 cases b<;>first
  | (simp only[O4,reduceCtorEq]at hv;done)
  | (simp only[jd,hb,eu])
theorem MQ {P:Program} {J:Rho} {ti:Nat->Option TI} (hti:TIs.ok P ti) {n:Nat} {mu:Bool} {g:Nat->X} {t:Tp} (hg:∀i,(g i).den J=dX t i) {h:bg} {Φ:Facts} (hk:Facts.ok J Φ) {op:Op} {a:XR}
  (hs:(Zj ti n mu g h Φ op).sel J=some a):a.shows J P n mu op t (aV J h):=by
 unfold Zj at hs
 split at hs
 ·cases hs
  exact ak (mu:=mu) (by simp only[dH,dL hg];rfl)
 ·cases hs
  exact ak (mu:=mu) (by simp only[dH,dL hg];rfl)
 ·obtain⟨v,hv,rfl⟩:=jy hs
  have:=V9 hk hv
  simp only[dL hg]at this
  exact ak (mu:=mu) (by simp only[dH,this,eu];rfl)
 ·rename_i e
  obtain⟨zs,hz,hs⟩:=Option.bind_eq_some_iff.1 (di (gm hti hs))
  split at hs
  ·cases hs
  ·rename_i hr
   cases hs
   have hz':zeroV P e=some zs:=hz
   refine ak (mu:=mu) ?_
   simp only[dH,yE,hz',Option.map_some,allocN,X.den,choose,bZ,List.map_cons,List.map_nil,bC (J:=J) (show aZ (zs.map WT)=false by simpa using hr),y9]
 ·split at hs
  ·rename_i x hc
   cases hs
   refine ak (mu:=mu) ?_
   simp only[dH,<-dL hg,X.cells_den J _ hc,aK7,X.all_one J _ hc,if_true,X.den,choose,bZ,List.map_cons,List.map_nil,Option.map_some,bC (J:=J) (QU hc)]
  ·cases hs
 ·obtain⟨v,hv,rfl⟩:=kY (gm hti hs)
  refine ak (mu:=mu) ?_
  simp only[dH,<-dL hg,XA hk hv,eu];rfl
 ·obtain⟨v,hv,rfl⟩:=T.sel_map _ (gm hti hs)
  refine ak (mu:=mu) ?_
  obtain⟨h1,h2⟩:=Qd (J:=J) hk hv
  simp only[dH,<-dL hg,X.cells_den J _ h1,h2,UO];rfl
 ·obtain⟨v,hv,rfl⟩:=jy hs
  refine ak (mu:=mu) ?_
  simp only[dH,<-dL hg,ac5 hv,eu];rfl
 ·obtain⟨v,hv,rfl⟩:=kY (gm hti hs)
  refine ak (mu:=mu) ?_
  simp only[dH,<-dL hg,KP hk hv,eu];rfl
 ·obtain⟨v,hv,rfl⟩:=jy (gm hti hs)
  refine ak (mu:=mu) ?_
  simp only[dH,<-dL hg,FO hv,eu];rfl
 ·obtain⟨v,hv,rfl⟩:=jy (gm hti hs)
  refine ak (mu:=mu) ?_
  simp only[dH,<-dL hg,Q5 hv,eu];rfl
 ·obtain⟨v,hv,rfl⟩:=kY (gm hti hs)
  refine ak (mu:=mu) ?_
  simp only[dH,<-dL hg,QW hk hv,eu];rfl
 ·rename_i ty x lo hi
  have hs:=gm hti hs
  split at hs
  ·rename_i l r hl hr
   obtain⟨v,hv,rfl⟩:=kY hs
   have hin:hi.isNone=(hi.map (nO g)).isNone:=by cases hi<;>rfl
   rw[hin]at hv
   obtain⟨w,hw,hle⟩:=ay0 hk hl hr hv
   refine Py (mu:=mu) (r:=w) ?_ hle
   have e:∀o:Option Operand,(o.map (nO g)).map (X.den J)=Vb t o:=fun o=>by cases o<;>simp only[Option.map_none,Option.map_some,Vb,dL hg]
   rw[e,e,dL hg]at hw
   have e0:Vb t none=none:=rfl
   simp only[dH,e0,hw,eu];rfl
  ·cases hs
 ·rename_i ty x lo hi mx
  obtain⟨v,hv,rfl⟩:=jy (gm hti hs)
  refine ak (mu:=mu) ?_
  have hw:=Zt (J:=J) hv
  have e:∀o:Option Operand,(o.map (nO g)).map (X.den J)=Vb t o:=fun o=>by cases o<;>simp only[Option.map_none,Option.map_some,Vb,dL hg]
  have e':∀o:Operand,some ((nO g o).den J)=Vb t (some o):=fun o=>by simp only[Vb,dL hg]
  rw[e,e',e',dL hg]at hw
  simp only[dH,hw,eu];rfl
 ·rename_i op' ty x y ty'
  have hs:=gm hti hs
  split at hs
  ·rename_i hy
   obtain⟨v,hv,rfl⟩:=kY hs
   refine ak (mu:=mu) ?_
   have h1:=Oa (J:=J) hk hv
   have e2:(nO g y).den J = .sc (.slice none 0 0):=by rw[hy];rfl
   simp only[dH,<-dL hg,e2,h1,eu];rfl
  ·rename_i hy
   obtain⟨v,hv,rfl⟩:=jy hs
   refine ak (mu:=mu) ?_
   have h1:=NL (J:=J) hv
   have e2:(nO g y).den J = .sc (.pointer none):=by rw[hy];rfl
   simp only[dH,<-dL hg,e2,h1,eu];rfl
  ·obtain⟨v,hv,rfl⟩:=kY hs
   refine ak (mu:=mu) ?_
   simp only[dH,<-dL hg,ao4 (ao3 hk hv),eu];rfl
 ·obtain⟨v,hv,rfl⟩:=kY hs
  refine ak (mu:=mu) ?_
  simp only[dH,<-dL hg,au8 hk hv,eu];rfl
 ·obtain⟨v,hv,rfl⟩:=kY (gm hti (gm hti hs))
  refine ak (mu:=mu) ?_
  simp only[dH,<-dL hg,Ya hk hv,eu];rfl
 ·rename_i x i
  split at hs
  ·rename_i vs hx
   obtain⟨v,hv,rfl⟩:=jy hs
   refine ak (mu:=mu) ?_
   simp only[dH,<-dL hg,hx,X.den,FP,X.denL_get,hv,Option.map_some,eu];rfl
  ·cases hs
 ·cases hs
  refine ak (mu:=mu) ?_
  simp only[dH,<-zL hg,X.den];rfl
 ·obtain⟨v,hv,rfl⟩:=jy (gm hti hs)
  refine ak (mu:=mu) ?_
  simp only[dH,<-FT hg,RQ hv,eu];rfl
 ·obtain⟨p,hv,rfl⟩:=Option.map_eq_some_iff.1 (di (gm hti hs))
  obtain⟨v,d⟩:=p
  refine ak (mu:=mu) ?_
  simp only[dH,<-FT hg,CX hti hv,qg]
 ·obtain⟨p,hv,rfl⟩:=T.sel_map _ (gm hti hs)
  obtain⟨v,d⟩:=p
  refine ak (mu:=mu) ?_
  simp only[dH,<-dL hg,Xu hti hk hv,qg]
 ·rename_i b args tys
  have hL:=zL (J:=J) hg args.toList
  split at hs
  ·rename_i ty _ x _ h1 h2
   obtain⟨v,hv,rfl⟩:=kY (gm hti hs)
   rw[h2]at hL
   refine ak (mu:=mu) ?_
   simp only[dH,h1,<-hL,X.denL,jd,af7 hk hv,eu];rfl
  ·rename_i x xs h2
   obtain⟨v,hv,rfl⟩:=jy hs
   rw[h2]at hL
   refine ak (mu:=mu) ?_
   simp only[dH,<-hL,X.denL,jd,Oj hv,eu];rfl
  ·rename_i x xs h2
   obtain⟨v,hv,rfl⟩:=jy hs
   rw[h2]at hL
   refine ak (mu:=mu) ?_
   simp only[dH,<-hL,X.denL,jd,Oi hv,eu];rfl
  ·rename_i ty xt s x h1 h2
   obtain⟨p,hv,rfl⟩:=T.sel_map _ (gm hti (gm hti hs))
   rw[h2]at hL
   refine ak (mu:=mu) ?_
   simp only[dH,h1,<-hL,X.denL,jd,ao9 hti hk hv,qg]
  ·rename_i ty xt s x h1 h2
   obtain⟨p,hv,rfl⟩:=Option.map_eq_some_iff.1 (di (gm hti hs))
   rw[h2]at hL
   refine ak (mu:=mu) ?_
   simp only[dH,h1,<-hL,X.denL,jd,X9 hv,qg]
  ·obtain⟨v,hv,rfl⟩:=jy hs
   have hb:=X8 (J:=J) hv
   rw[hL]at hb
   refine ak (mu:=mu) ?_
   simp only[dH]
   exact LM hv hb
 ·rename_i x args tys
  split at hs
  ·rename_i f xs ys hx
   cases hs
   simp only[XR.shows,dH,<-dL hg,hx,X.den,Vp,<-zL hg,X.denL_append]
  ·cases hs
 ·cases hs
end Go.Proofs.Xw
