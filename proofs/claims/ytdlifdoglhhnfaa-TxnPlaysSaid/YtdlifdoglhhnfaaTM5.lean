/- Parts of the proof, one behind the other. -/
import Derived.Test.YtdlifdoglhhnfaaTM4
import Derived.Test.YtdlifdoglhhnfaaXwM3
namespace Go.Proofs.Ytdlifdoglhhnfaa
open Go Go.Proofs.Aw Go.Proofs.Xw Go.Proofs.Sr
set_option maxRecDepth 100000
theorem ap_ci {β:Bind} {ρ:Rho} {l k:Nat} {m:IE} {r:RL} (h:lassoc l β.r=some (m,r)) (j:Nat):(β.ap ρ).ci l k j=cellI (r.row ρ j)[k]? := by simp only[Bind.ap,h]
theorem row_i (ρ:Rho) (l j:Nat):cellI ((RL.var l [.i .i64]).row ρ j)[0]? = ρ.ci l 0 j:=by
 simp only[RL.row,cellsV,List.getElem?_cons_zero,cellI,Int.toNat_natCast]
theorem row_one (ρ:Rho) (x:IE) (j:Int):cellI ((RL.one [.i .i64 x]).row ρ j)[0]? = x.den ρ:=by
 simp only[RL.row,scL,List.map_cons,List.map_nil,List.getElem?_cons_zero,Sc.den,cellI]
theorem row_app (ρ:Rho) (l j:Nat) (x:IE):cellI ((RL.app (.len l) (.var l [.i .i64]) (.one [.i .i64 x])).row ρ j)[0]? = if j<ρ.len l then ρ.ci l 0 j else x.den ρ:=by
 simp only[RL.row]
 by_cases c:j<ρ.len l
 ·rw[if_pos (show(j:Int)<(IE.len l).den ρ from by simp only[IE.den];omega),if_pos c];exact row_i ρ l j
 ·rw[if_neg (show ¬(j:Int)<(IE.len l).den ρ from by simp only[IE.den];omega),if_neg c];exact row_one ρ x 0
theorem inc {ρ:Rho} {k j:Nat} (h:ρ.i k=j) (hj:j<4611686018427387904):(IE.op .add .i64 (.var k) (.lit 1)).den ρ=((j+1:Nat):Int):=by
 show IOp.den .add .i64 (ρ.i k) 1=_
 rw[h];simp only[IOp.den];rw[wrap_id _ (by omega) (by omega)];omega
theorem ap_cb {β:Bind} {ρ:Rho} {l k:Nat} {m:IE} {r:RL} (h:lassoc l β.r=some (m,r)) (j:Nat):(β.ap ρ).cb l k j=cellB (r.row ρ j)[k]? := by simp only[Bind.ap,h]
theorem cl_i {ρ:Rho} {l k:Nat} {e:IE} {j:Nat} (h:e.den ρ=j):(IE.cl l k e).den ρ=ρ.ci l k j:=by
 show ρ.ci l k (e.den ρ).toNat=_;rw[h,Int.toNat_natCast]
theorem cl_b {ρ:Rho} {l k:Nat} {e:IE} {j:Nat} (h:e.den ρ=j):(BE.cl l k e).den ρ=ρ.cb l k j:=by
 show ρ.cb l k (e.den ρ).toNat=_;rw[h,Int.toNat_natCast]
def putI (ρ:Rho) (v:List (Nat×Int)):Rho:={ ρ with i:=fun k=>match lassoc k v with | some x=>x | none=>ρ.i k }
def putB (ρ:Rho) (k:Nat) (b:Bool):Rho:={ ρ with b:=fun j=>if j=k then b else ρ.b j }
theorem putI_agree (ρ:Rho) {v:List (Nat×Int)} {n:Nat} (h:keysGe n v=true):Agree n ρ (putI ρ v) :=
 ⟨fun k hk=>by simp only[putI,lassoc_ge h hk],fun _ _=>rfl,fun _ _=>rfl,fun _ _=>rfl,fun _ _=>rfl,fun _ _=>rfl,fun _ _=>rfl⟩
theorem putB_agree (ρ:Rho) {k n:Nat} {b:Bool} (h:n≤k):Agree n ρ (putB ρ k b) :=
 ⟨fun _ _=>rfl,fun j hj=>by show _=if j=k then _ else _;rw[if_neg (by omega)],fun _ _=>rfl,fun _ _=>rfl,fun _ _=>rfl,fun _ _=>rfl,fun _ _=>rfl⟩
theorem one_way {ρ:Rho} {N:Nat} {c:Code} {L M:LoopX} (h:LoopOk Try.prog ρ N c L) (h0:M.k0=L.k0) (h1:M.S=L.S) (h2:M.init=L.init) (h3:∀e s,L.out.sel ρ=some (e,s)→M.out.sel ρ=some (e,s)):LoopOk Try.prog ρ N c M:=by
 intro E hE hk
 rw[h1,h2]
 exact AW_mono (fun e σ hq=>by
  obtain⟨e',s,q1,q2,q3⟩:=hq
  exact⟨e',s,h3 _ _ q1,q2,q3⟩) (h E hE (by rw[←h0];exact hk))
def rightV (ρ:Rho):Prop:=∀k,k<9→0≤ρ.i k∧ρ.i k≤1099511627776
theorem tru_cy {ρ ρ':Rho} {f:Nat} {hf:List Nat} {c:Cfg} {Φ:Facts} {args:List X} {t:T X} (cok:CfgOk Try.prog ρ' c) (hk:Facts.ok ρ' Φ) (hrun:askF ⟨c,l_able,hf⟩ f args Φ=t) {x:X} (hs:t.sel ρ'=some x) (hx:x.den ρ' = .sc (.bool true)) (ha:X.denL ρ args=X.denL ρ' args):∀n h,CY Try.prog n f (X.denL ρ args) h (.sc (.bool true)) []:=by
 have q:=askF_ok (c:=⟨c,l_able,hf⟩) (f:=f) (args:=args) (Φ:=Φ) cok l_able_ok hk (r:=x) (by rw[hrun];exact hs)
 rw[hx,←ha]at q
 exact q.2
theorem sl_sizes {W:World} {v:Value} {j:Nat} (h:Fits W (.sl [.s]) v) (vs:List Value) (cells:List Value) (zs:List Nat) (hv:vs[j]? = some v) (hz:zs[j]? = some 1):∀k,k<(mkR W cells vs zs).len j→(stR (mkR W cells vs zs) j k).size<9223372036854775808:=by
 obtain⟨_,A,len,cap,rfl,_,h⟩:=h
 intro k hk
 have hk:k<len:=by
  have:(mkR W cells vs zs).len j=len:=by simp only[mkR,hv,lenO]
  omega
 obtain⟨a,rfl,_,h⟩:=h (by omega)
 obtain⟨cs,⟨v,r,rfl,⟨s,rfl,hs⟩,_⟩,hc⟩:=h k hk
 have h0:=hc 0 (by decide)
 simp only[List.length_cons,List.length_nil,List.getElem?_cons_zero]at h0
 show(strO (rowCell W vs zs j 0 k)).size<_
 have:rowCell W vs zs j 0 k=some (.string s):=by
  unfold rowCell
  rw[hv,hz]
  exact h0
 rw[this]
 show s.size<_
 have:maxLen=9223372036854775807:=rfl
 omega
theorem sl_len {W:World} {v:Value} {j:Nat} {ks:List Kd} (h:Fits W (.sl ks) v) (vs:List Value) (cells:List Value) (zs:List Nat) (hv:vs[j]? = some v):∃A len cap,v = .slice A len cap∧(mkR W cells vs zs).len j=len:=by
 obtain⟨_,A,len,cap,rfl,_,_⟩:=h
 exact⟨A,len,cap,rfl,by simp only[mkR,hv,lenO]⟩
structure EnF (ρ:Rho) (n m:Nat) (g:Nat→ByteArray):Prop where
 en:ρ.len 2=n
 em:ρ.len 3=m
 eg:stR ρ 2=g
 n1:1≤n
 n6:n≤6
 mb:m<4611686018427387904
 r1:1≤ρ.i 9
 r3:ρ.i 9≤3
 z:∀j,j<n→(g j).size<9223372036854775808
theorem EnF.agree {ρ ρ':Rho} {n m k:Nat} {g:Nat→ByteArray} (h:EnF ρ n m g) (ag:Agree k ρ ρ') (hk:10≤k):EnF ρ' n m g :=
 ⟨by rw[←ag.len 2 (by omega)];exact h.en,by rw[←ag.len 3 (by omega)];exact h.em,by rw[agree_st ag (by omega)];exact h.eg,h.n1,h.n6,h.mb,by rw[←ag.i 9 (by omega)];exact h.r1,by rw[←ag.i 9 (by omega)];exact h.r3,h.z⟩
def paR (f:Nat→Int):Rho:=⟨fun _=>0,fun _=>false,fun _=>⟨#[]⟩,fun _=>0,fun _ c _=>f c,fun _ _ _=>false,fun _ _ _=>⟨#[]⟩⟩
def exOf (t:T X) (d:Nat):IE:=match t with
 | .ret (.agg l)=>match l[d]? with
  | some (.sc (.i _ x))=>x
  | _ => .lit 0
 | _ => .lit 0
def pa (f:Nat→Int) (d:Nat):Int:=(exOf psR d).den (paR f)
def nineV (v:Nat→Int):AV := .agg ((List.range 9).map fun k => .sc (.int .i64 (v k)))
theorem past_row (ρ:Rho) (l:Nat) (i:IE):hasBody Try.prog 16=true∧∀n h,CY Try.prog n 16 (X.denL ρ [.ro 20 [enC l i] true]) h (nineV (pa fun c=>ρ.ci l c (i.den ρ).toNat)) []:=by
 let ρ':Rho:=⟨fun _=>i.den ρ,fun _=>false,fun _=>⟨#[]⟩,fun _=>0,fun _ c k=>ρ.ci l c k,fun _ c k=>ρ.cb l c k,fun _ c k=>ρ.cs l c k⟩
 have q:=askF_ok (c:=⟨cfgL [] (fun _=>[]),l_able,[]⟩) (ρ:=ρ') (f:=16) (args:=[.ro 20 [enC 3 (.var 500)] true]) (Φ:=[]) (cN_ok ρ') l_able_ok (Facts.ok_nil ρ') (by rw[psR_run];exact rfl)
 exact q
def pc (c:Nat→Int) (r:Int) (x:Nat):Int:=(exOf ptR x).den ⟨fun k=>if k<552 then c (k-532)else r,fun _=>false,fun _=>⟨#[]⟩,fun _=>0,fun _ _ _=>0,fun _ _ _=>false,fun _ _ _=>⟨#[]⟩⟩
theorem part_row (ρ:Rho) (a:Nat) (r:IE):hasBody Try.prog 19=true∧∀n h,CY Try.prog n 19 (X.denL ρ [.agg (vi a 9),.sc (.i .i64 r)]) h (.agg [.sc (.int .i64 (pc (fun k=>ρ.i (a+k)) (r.den ρ) 0)),.sc (.int .i64 (pc (fun k=>ρ.i (a+k)) (r.den ρ) 1)),.sc (.int .i64 (pc (fun k=>ρ.i (a+k)) (r.den ρ) 2))]) []:=by
 let ρ':Rho:=⟨fun k=>if k<552 then ρ.i (a+(k-532))else r.den ρ,fun _=>false,fun _=>⟨#[]⟩,fun _=>0,fun _ _ _=>0,fun _ _ _=>false,fun _ _ _=>⟨#[]⟩⟩
 have q:=askF_ok (c:=⟨cfgL [] (fun _=>[]),l_able,[]⟩) (ρ:=ρ') (f:=19) (args:=[.agg (vi 532 9),iV 552]) (Φ:=[]) (cN_ok ρ') l_able_ok (Facts.ok_nil ρ') (by rw[ptR_run];exact rfl)
 exact q
def ncol (f:Nat→Int) (p:Nat→Int):Prop:=f 22<p 0∨f 23<p 1∨f 24<p 2
end Go.Proofs.Ytdlifdoglhhnfaa
