/- Parts of the proof, one behind the other. -/
import Derived.Test.YtdlifdoglhhnfaaTM18
import Derived.Test.YtdlifdoglhhnfaaTM20
namespace Go.Proofs.Ytdlifdoglhhnfaa
open Go Go.Proofs.Aw Go.Proofs.Xw Go.Proofs.Sr
set_option maxRecDepth 100000
theorem map9_ok {ρ:Rho} {f:Nat→BE} (h:∀d,d<9→(f d).den ρ=true):Facts.ok ρ ((List.range 9).map fun k=>(f k,true)):=fun p hp=>by
 obtain⟨k,hk,rfl⟩:=List.mem_map.1 hp
 exact h k (List.mem_range.1 hk)
structure Bs (ρ:Rho) (n m:Nat) (g:Nat→ByteArray) (i:Nat):Prop where
 t:TdB ρ n m g
 xi:ρ.i 500=i
 im:i≤m+1
 rv:rightV ρ
 an:∀x,x<n→rw_ ρ 504 ka x=rw_ ρ 506 ka x
 cut:∀d,d<9→ρ.i (510+d)=ρ.i (520+d)
 rd:ρ.i 519=ρ.i 529
theorem rightV.agree {ρ ρ':Rho} {b:Nat} (h:rightV ρ) (ag:Agree b ρ ρ') (hb:9≤b):rightV ρ':=fun k hk=>by
 rw[←ag.i k (by omega)];exact h k hk
theorem Bs.agree {ρ ρ':Rho} {b n m i:Nat} {g:Nat→ByteArray} (h:Bs ρ n m g i) (ag:Agree b ρ ρ') (hb:530≤b):Bs ρ' n m g i :=
 ⟨h.t.agree ag (by omega),by rw[←ag.i 500 (by omega)];exact h.xi,h.im,h.rv.agree ag (by omega),fun x hx=>by rw[rw_agree ag (by omega),rw_agree ag (by omega)];exact h.an x hx,fun d hd=>by rw[←ag.i (510+d) (by omega),←ag.i (520+d) (by omega)];exact h.cut d hd,by rw[←ag.i 519 (by omega),←ag.i 529 (by omega)];exact h.rd⟩
structure Tp (ρ:Rho) (n off len:Nat):Prop where
 o:ρ.i 502=off
 l:ρ.i 503=len
 t:ρ.len 505=off+len
 on:off+len≤n
structure Td (ρ:Rho) (n off len:Nat):Prop where
 o:ρ.i 507=off
 l:ρ.i 508=len
 t:ρ.len 509=off+len
 on:off+len≤n
theorem Tp.agree {ρ ρ':Rho} {b n off len:Nat} (h:Tp ρ n off len) (ag:Agree b ρ ρ') (hb:530≤b):Tp ρ' n off len :=
 ⟨by rw[←ag.i 502 (by omega)];exact h.o,by rw[←ag.i 503 (by omega)];exact h.l,by rw[←ag.len 505 (by omega)];exact h.t,h.on⟩
theorem Td.agree {ρ ρ':Rho} {b n off len:Nat} (h:Td ρ n off len) (ag:Agree b ρ ρ') (hb:530≤b):Td ρ' n off len :=
 ⟨by rw[←ag.i 507 (by omega)];exact h.o,by rw[←ag.i 508 (by omega)];exact h.l,by rw[←ag.len 509 (by omega)];exact h.t,h.on⟩
def Sm (ρ:Rho) (n c:Nat):Prop:=∀y,y<c→∃κ:Nat,κ<n∧ρ.ci 505 0 y=κ∧ρ.ci 509 0 y=κ
theorem Sm.agree {ρ ρ':Rho} {b n c:Nat} (h:Sm ρ n c) (ag:Agree b ρ ρ') (hb:530≤b):Sm ρ' n c:=by
 unfold Sm;rw[←ag.ci 505 (by omega),←ag.ci 509 (by omega)];exact h
structure Lv (ρ:Rho) (n off len:Nat):Prop where
 p:Tp ρ n off len
 d:Td ρ n off len
 s:Sm ρ n (off+len)
 l0:0<len
 b:ρ.b 530=false
 c:ρ.i 531=0
 r:(ρ.i 519=1∧∀d,d<9→ρ.i (510+d)=ρ.i d)∨ρ.i 519=2
theorem Lv.agree {ρ ρ':Rho} {b n off len:Nat} (h:Lv ρ n off len) (ag:Agree b ρ ρ') (hb:532≤b):Lv ρ' n off len :=
 ⟨h.p.agree ag (by omega),h.d.agree ag (by omega),h.s.agree ag (by omega),h.l0,by rw[←ag.b 530 (by omega)];exact h.b,by rw[←ag.i 531 (by omega)];exact h.c,by
  rw[←ag.i 519 (by omega)]
  refine h.r.imp (fun q=>⟨q.1,fun d hd => ?_⟩) id
  rw[←ag.i (510+d) (by omega),←ag.i d (by omega)];exact q.2 d hd⟩
theorem inM_den {ρ:Rho} {n m i:Nat} {g:Nat→ByteArray} (h:Bs ρ n m g i):inM.den ρ=decide (i<m):=by
 show decide (ρ.i 500<(ρ.len 3:Int))=_
 rw[h.xi,h.t.f.em]
 exact decide_eq_decide.2 (by omega)
theorem mnF_ok {ρ:Rho} {n m i:Nat} {g:Nat→ByteArray} (h:Bs ρ n m g i) (him:i≤m):Facts.ok ρ mnF:=by
 have h1:=h.t.f.en;have h2:=h.t.f.em;have h3:=h.t.k1;have h4:=h.t.k3;have h5:=h.xi;have h6:=h.t.f.n1;have h7:=h.t.f.n6
 refine all_ok (Facts.ok_cons (by rw[dlt_f];simp only[IE.den];omega) (Facts.ok_cons (by rw[dlt_f];simp only[IE.den];omega) (Facts.ok_cons (by rw[dlt_f];simp only[IE.den];omega) (Facts.ok_cons (by rw[dlt_f];simp only[IE.den];omega) (Facts.ok_cons (by rw[deq_t];simp only[IE.den];omega) (Facts.ok_cons (by rw[deq_t];simp only[IE.den];omega) (Facts.ok_cons (by rw[deq_t];exact h.rd) (Facts.ok_nil _)))))))) (map9_ok fun d hd=>by rw[deq_t];exact h.cut d hd)
theorem lnT_ok {ρ:Rho} {n off len:Nat} (h:Tp ρ n off len) (n6:n≤6):Facts.ok ρ lnT:=by
 have h1:=h.o;have h2:=h.l;have h3:=h.t;have h4:=h.on
 refine Facts.ok_cons (by rw[dlt_f];simp only[IE.den];omega) (Facts.ok_cons (by rw[dlt_f];simp only[IE.den];omega) (Facts.ok_cons (by rw[dlt_f];simp only[IE.den];omega) (Facts.ok_cons ?_ (Facts.ok_nil _))))
 rw[deq_t]
 show(ρ.len 505:Int)=ρ.i 502+ρ.i 503
 omega
theorem lnF_ok {ρ:Rho} {n off len o2 l2:Nat} (h:Tp ρ n off len) (k:Td ρ n o2 l2) (n6:n≤6):Facts.ok ρ lnF:=by
 have h1:=h.o;have h2:=h.l;have h3:=h.t;have h4:=h.on
 have k1:=k.o;have k2:=k.l;have k3:=k.t;have k4:=k.on
 refine Facts.ok_cons (by rw[dlt_f];simp only[IE.den];omega) (Facts.ok_cons (by rw[dlt_f];simp only[IE.den];omega) (Facts.ok_cons (by rw[dlt_f];simp only[IE.den];omega) (Facts.ok_cons (by rw[dlt_f];simp only[IE.den];omega) (Facts.ok_cons ?_ (Facts.ok_cons (by rw[dlt_f];simp only[IE.den];omega) (Facts.ok_cons (by rw[dlt_f];simp only[IE.den];omega) (Facts.ok_cons ?_ (Facts.ok_nil _))))))))
 ·rw[deq_t]
  show(ρ.len 505:Int)=ρ.i 502+ρ.i 503
  omega
 ·rw[deq_t]
  show(ρ.len 509:Int)=ρ.i 507+ρ.i 508
  omega
theorem Lv.key {ρ:Rho} {n off len:Nat} (h:Lv ρ n off len):∃κ:Nat,κ<n∧t0E.den ρ=κ∧d0E.den ρ=κ∧ρ.ci 505 0 off=κ∧ρ.ci 509 0 off=κ:=by
 obtain⟨κ,k1,k2,k3⟩:=h.s off (by have:=h.l0;omega)
 exact⟨κ,k1,(cl_i (e := .var 502) h.p.o).trans k2,(cl_i (e := .var 507) h.d.o).trans k3,k2,k3⟩
theorem lvF_ok {ρ:Rho} {n m i off len:Nat} {g:Nat→ByteArray} (hB:Bs ρ n m g i) (h:Lv ρ n off len):Facts.ok ρ lvF:=by
 obtain⟨κ,k1,k2,k3,_,_⟩:=h.key
 have h1:=h.p.o;have h2:=h.p.l;have h3:=h.p.t;have h4:=h.p.on;have h5:=h.d.o;have h6:=h.d.l;have h7:=h.d.t;have h8:=h.l0;have h9:=hB.t.f.en
 refine all_ok (lnF_ok h.p h.d hB.t.f.n6) (Facts.ok_cons (by rw[dlt_t];simp only[IE.den];omega) (Facts.ok_cons (by rw[dlt_t];simp only[IE.den];omega) (Facts.ok_cons (by rw[dlt_f,k2];simp only[IE.den];omega) (Facts.ok_cons (by rw[dlt_t,k2];simp only[IE.den];omega) (Facts.ok_cons (by rw[dlt_t];simp only[IE.den];omega) (Facts.ok_cons (by rw[dlt_f,k3];simp only[IE.den];omega) (Facts.ok_cons (by rw[dlt_t,k3];simp only[IE.den];omega) (Facts.ok_cons (by rw[dlt_t];simp only[IE.den];omega) (Facts.ok_cons h.b (Facts.ok_cons (by rw[deq_t];exact h.c) (Facts.ok_cons (by rw[dlt_f];simp only[IE.den];rcases h.r with q | q<;>omega) (Facts.ok_cons ?_ (Facts.ok_nil _)))))))))))))
 rw[seq_t,sl_den k2,hB.t.f.eg]
 show g κ=ρ.cs 471 0 (d0E.den ρ).toNat
 rw[k3,Int.toNat_natCast];exact(hB.t.k2 κ k1).symm
theorem rd1_ok {ρ:Rho} {n m i off len:Nat} {g:Nat→ByteArray} (hB:Bs ρ n m g i) (h:Lv ρ n off len) (him:i≤m) (r:ρ.i 519=1) (hc:∀d,d<9→ρ.i (510+d)=ρ.i d):Facts.ok ρ rd1 :=
 Facts.ok_cons (by rw[deq_t];exact r) (Facts.ok_cons (by rw[deq_t];exact hB.rd.symm.trans r) (all_ok (map9_ok fun d hd=>by rw[deq_t];exact(hc d hd).symm.trans (hB.cut d hd)) (all_ok (mnF_ok hB him) (lvF_ok hB h))))
theorem rd2_ok {ρ:Rho} {n m i off len:Nat} {g:Nat→ByteArray} (hB:Bs ρ n m g i) (h:Lv ρ n off len) (him:i≤m) (r:ρ.i 519=2):Facts.ok ρ rd2 :=
 Facts.ok_cons (by rw[deq_t];exact r) (Facts.ok_cons (by rw[deq_t];exact hB.rd.symm.trans r) (all_ok (mnF_ok hB him) (lvF_ok hB h)))
theorem lg_ok {ρ:Rho} {n off len:Nat} (h:Lv ρ n off len) (hl:1<len):Facts.ok ρ lg:=by
 have h1:=h.p.l;have h2:=h.d.l
 exact Facts.ok_cons (by rw[dlt_t];simp only[IE.den];omega) (Facts.ok_cons (by rw[dlt_t];simp only[IE.den];omega) (Facts.ok_nil _))
theorem sh_ok {ρ:Rho} {n off len:Nat} (h:Lv ρ n off len) (hl:len=1):Facts.ok ρ sh:=by
 have h1:=h.p.l;have h2:=h.d.l
 exact Facts.ok_cons (by rw[deq_t];simp only[IE.den];omega) (Facts.ok_cons (by rw[deq_t];simp only[IE.den];omega) (Facts.ok_nil _))
theorem ap_b {β:Bind} {ρ:Rho} {k:Nat} {e:BE} (h:lassoc k β.b=some e):(β.ap ρ).b k=e.den ρ:=by simp only[Bind.ap,h]
theorem Bs.next {ρ:Rho} {β:Bind} {n m i:Nat} {g:Nat→ByteArray} (h:Bs ρ n m g i) (c:i≤m) (hg:β.ge 500=true) (h0:lassoc 500 β.i=some (.op .add .i64 (.var 500) (.lit 1))) (an:∀x,x<n→rw_ (β.ap ρ) 504 ka x=rw_ (β.ap ρ) 506 ka x) (cut:∀d,d<9→(β.ap ρ).i (510+d)=(β.ap ρ).i (520+d)) (rd:(β.ap ρ).i 519=(β.ap ρ).i 529):Bs (β.ap ρ) n m g (i+1) :=
 ⟨h.t.agree (Bind.agree hg ρ) (by decide),(ap_i h0).trans (inc h.xi (by have:=h.t.f.mb;omega)),by omega,h.rv.agree (Bind.agree hg ρ) (by decide),an,cut,rd⟩
def cutS (β:Bind):Prop:=∀d,d<9→lassoc (510+d) β.i=some (.var (510+d))∧lassoc (520+d) β.i=some (.var (520+d))
theorem Bs.stay {ρ:Rho} {β:Bind} {n m i:Nat} {g:Nat→ByteArray} {m4 m6:IE} (h:Bs ρ n m g i) (c:i≤m) (hg:β.ge 500=true) (h0:lassoc 500 β.i=some (.op .add .i64 (.var 500) (.lit 1))) (hc:cutS β) (h19:lassoc 519 β.i=some (.var 519)) (h29:lassoc 529 β.i=some (.var 529)) (r4:lassoc 504 β.r=some (m4,.var 504 ka)) (r6:lassoc 506 β.r=some (m6,.var 506 ka)):Bs (β.ap ρ) n m g (i+1) :=
 h.next c hg h0 (fun x hx=>by rw[ap_row r4,ap_row r6,var_row,var_row,h.an x hx]) (fun d hd=>by rw[ap_i (hc d hd).1,ap_i (hc d hd).2];exact h.cut d hd) (by rw[ap_i h19,ap_i h29];exact h.rd)
theorem Bs.put {ρ:Rho} {β:Bind} {n m i κ:Nat} {g:Nat→ByteArray} {m4 m6:IE} (h:Bs ρ n m g i) (c:i≤m) (hg:β.ge 500=true) (h0:lassoc 500 β.i=some (.op .add .i64 (.var 500) (.lit 1))) (hc:cutS β) (h19:lassoc 519 β.i=some (.var 519)) (h29:lassoc 529 β.i=some (.var 529)) (r4:lassoc 504 β.r=some (m4,.upd t0E (anS 3 (.var 500)) (.var 504 ka))) (r6:lassoc 506 β.r=some (m6,.upd d0E (anS 3 (.var 500)) (.var 506 ka))) (k4:t0E.den ρ=κ) (k6:d0E.den ρ=κ):Bs (β.ap ρ) n m g (i+1) :=
 h.next c hg h0 (fun x hx=>by
  rw[ap_row r4,ap_row r6,upd_row ρ k4 x,upd_row ρ k6 x]
  by_cases q:x=κ
  ·rw[if_pos q,if_pos q]
  ·rw[if_neg q,if_neg q,h.an x hx]) (fun d hd=>by rw[ap_i (hc d hd).1,ap_i (hc d hd).2];exact h.cut d hd) (by rw[ap_i h19,ap_i h29];exact h.rd)
theorem Tp.stay {ρ:Rho} {β:Bind} {n off len:Nat} (h:Tp ρ n off len) (h2:lassoc 502 β.i=some (.var 502)) (h3:lassoc 503 β.i=some (.var 503)) (r5:lassoc 505 β.r=some (.len 505,.var 505 [.i .i64])):Tp (β.ap ρ) n off len :=
 ⟨(ap_i h2).trans h.o,(ap_i h3).trans h.l,by rw[ap_len r5];show((ρ.len 505:Int)).toNat=_;rw[h.t];omega,h.on⟩
theorem Tp.pop {ρ:Rho} {β:Bind} {n off len:Nat} (h:Tp ρ n off len) (l0:0<len) (h2:lassoc 502 β.i=some (.op .padd .i64 (.var 502) (.lit 1))) (h3:lassoc 503 β.i=some (.op .psub .i64 (.var 503) (.lit 1))) (r5:lassoc 505 β.r=some (.len 505,.var 505 [.i .i64])):Tp (β.ap ρ) n (off+1) (len-1) :=
 ⟨(ap_i h2).trans (by show ρ.i 502+1=_;rw[h.o];omega),(ap_i h3).trans (by show ρ.i 503-1=_;rw[h.l];omega),by rw[ap_len r5];show((ρ.len 505:Int)).toNat=_;rw[h.t];omega,by have:=h.on;omega⟩
theorem Td.stay {ρ:Rho} {β:Bind} {n off len:Nat} (h:Td ρ n off len) (h2:lassoc 507 β.i=some (.var 507)) (h3:lassoc 508 β.i=some (.var 508)) (r5:lassoc 509 β.r=some (.len 509,.var 509 [.i .i64])):Td (β.ap ρ) n off len :=
 ⟨(ap_i h2).trans h.o,(ap_i h3).trans h.l,by rw[ap_len r5];show((ρ.len 509:Int)).toNat=_;rw[h.t];omega,h.on⟩
theorem Td.pop {ρ:Rho} {β:Bind} {n off len:Nat} (h:Td ρ n off len) (l0:0<len) (h2:lassoc 507 β.i=some (.op .padd .i64 (.var 507) (.lit 1))) (h3:lassoc 508 β.i=some (.op .psub .i64 (.var 508) (.lit 1))) (r5:lassoc 509 β.r=some (.len 509,.var 509 [.i .i64])):Td (β.ap ρ) n (off+1) (len-1) :=
 ⟨(ap_i h2).trans (by show ρ.i 507+1=_;rw[h.o];omega),(ap_i h3).trans (by show ρ.i 508-1=_;rw[h.l];omega),by rw[ap_len r5];show((ρ.len 509:Int)).toNat=_;rw[h.t];omega,by have:=h.on;omega⟩
theorem Sm.stay {ρ:Rho} {β:Bind} {n c c':Nat} (h:Sm ρ n c) (hc:c'=c) (r5:lassoc 505 β.r=some (.len 505,.var 505 [.i .i64])) (r9:lassoc 509 β.r=some (.len 509,.var 509 [.i .i64])):Sm (β.ap ρ) n c':=fun y hy=>by
 obtain⟨κ,k1,k2,k3⟩:=h y (by omega)
 exact⟨κ,k1,by rw[ap_ci r5,row_i];exact k2,by rw[ap_ci r9,row_i];exact k3⟩
theorem Lv.stay {ρ:Rho} {β:Bind} {n off len:Nat} (h:Lv ρ n off len) (hg:β.ge 500=true) (h2:lassoc 502 β.i=some (.var 502)) (h3:lassoc 503 β.i=some (.var 503)) (h7:lassoc 507 β.i=some (.var 507)) (h8:lassoc 508 β.i=some (.var 508)) (r5:lassoc 505 β.r=some (.len 505,.var 505 [.i .i64])) (r9:lassoc 509 β.r=some (.len 509,.var 509 [.i .i64])) (hb:lassoc 530 β.b=some (.var 530)) (h31:lassoc 531 β.i=some (.var 531)) (h19:lassoc 519 β.i=some (.var 519)) (hc:cutS β):Lv (β.ap ρ) n off len :=
 ⟨h.p.stay h2 h3 r5,h.d.stay h7 h8 r9,h.s.stay rfl r5 r9,h.l0,(ap_b hb).trans h.b,(ap_i h31).trans h.c,by
  rw[ap_i h19]
  refine h.r.imp (fun q=>⟨q.1,fun d hd => ?_⟩) id
  rw[ap_i (hc d hd).1,←(Bind.agree hg ρ).i d (by omega)];exact q.2 d hd⟩
theorem Lv.pop {ρ:Rho} {β:Bind} {n off len:Nat} (h:Lv ρ n off len) (l1:1<len) (hg:β.ge 500=true) (h2:lassoc 502 β.i=some (.op .padd .i64 (.var 502) (.lit 1))) (h3:lassoc 503 β.i=some (.op .psub .i64 (.var 503) (.lit 1))) (h7:lassoc 507 β.i=some (.op .padd .i64 (.var 507) (.lit 1))) (h8:lassoc 508 β.i=some (.op .psub .i64 (.var 508) (.lit 1))) (r5:lassoc 505 β.r=some (.len 505,.var 505 [.i .i64])) (r9:lassoc 509 β.r=some (.len 509,.var 509 [.i .i64])) (hb:lassoc 530 β.b=some (.var 530)) (h31:lassoc 531 β.i=some (.var 531)) (h19:lassoc 519 β.i=some (.var 519)) (hc:cutS β):Lv (β.ap ρ) n (off+1) (len-1) :=
 ⟨h.p.pop h.l0 h2 h3 r5,h.d.pop h.l0 h7 h8 r9,h.s.stay (by omega) r5 r9,by omega,(ap_b hb).trans h.b,(ap_i h31).trans h.c,by
  rw[ap_i h19]
  refine h.r.imp (fun q=>⟨q.1,fun d hd => ?_⟩) id
  rw[ap_i (hc d hd).1,←(Bind.agree hg ρ).i d (by omega)];exact q.2 d hd⟩
theorem t2P_of {ρ:Rho} (h:LoopOk Try.prog ρ Try.f34.ntmps t2_c t2) (hb:ρ.b 626=true):LoopOk Try.prog ρ Try.f34.ntmps t2P_c t2P :=
 one_way h rfl rfl rfl fun e s hs=>by
  have:t2_out.sel ρ=some (e,s):=hs
  unfold t2_out at this
  rw[T.sel,if_pos (show(BE.var 626).den ρ=true from hb)]at this
  exact this
theorem t2Q_of {ρ:Rho} (h:LoopOk Try.prog ρ Try.f34.ntmps t2_c t2) (hb:ρ.b 626=false):LoopOk Try.prog ρ Try.f34.ntmps t2Q_c t2Q :=
 one_way h rfl rfl rfl fun e s hs=>by
  have:t2_out.sel ρ=some (e,s):=hs
  unfold t2_out at this
  rw[T.sel,if_neg (show ¬(BE.var 626).den ρ=true from by rw[show(BE.var 626).den ρ=ρ.b 626 from rfl,hb];decide)]at this
  exact this
theorem tdP_of {ρ:Rho} (h:LoopOk Try.prog ρ Try.f26.ntmps td_c td) (hb:ρ.b 667=true):LoopOk Try.prog ρ Try.f26.ntmps tdP_c tdP :=
 one_way h rfl rfl rfl fun e s hs=>by
  have:td_out.sel ρ=some (e,s):=hs
  unfold td_out at this
  rw[T.sel,if_pos (show(BE.var 667).den ρ=true from hb)]at this
  exact this
theorem tdQ_of {ρ:Rho} (h:LoopOk Try.prog ρ Try.f26.ntmps td_c td) (hb:ρ.b 667=false):LoopOk Try.prog ρ Try.f26.ntmps tdQ_c tdQ :=
 one_way h rfl rfl rfl fun e s hs=>by
  have:td_out.sel ρ=some (e,s):=hs
  unfold td_out at this
  rw[T.sel,if_neg (show ¬(BE.var 667).den ρ=true from by rw[show(BE.var 667).den ρ=ρ.b 667 from rfl,hb];decide)]at this
  exact this
def k43 (ρ:Rho) (a:List X):Prop:=hasBody Try.prog 43=true∧∀n h,CY Try.prog n 43 (X.denL ρ a) h (X.den ρ (.agg (vi 650 9))) []
structure Lst5 (ρ ρ5:Rho) (n:Nat):Prop where
 ag:Agree 600 ρ ρ5
 i601:ρ5.i 601=n
 i640:ρ5.i 640=n
 i660:ρ5.i 660=n
 an:∀x,x<n→rw_ ρ5 600 ka x=rw_ ρ5 639 ka x
 k44:hasBody Try.prog 44=true∧∀n h,CY Try.prog n 44 (X.denL ρ5 [.agg (vi 520 9),.agg (vi 650 9)]) h (X.den ρ5 (.agg (vi 602 9))) []
 t1:LoopOk Try.prog ρ5 Try.f34.ntmps t1_c t1
 fd:(k43 ρ5 [.k (.slice none 0 0)]∧LoopOk Try.prog ρ5 Try.f26.ntmps fdN_c fdN)∨(0<ρ5.len 641∧k43 ρ5 [ke20]∧LoopOk Try.prog ρ5 Try.f26.ntmps fdR_c fdR)
 ls:(LoopOk Try.prog ρ5 Try.f34.ntmps t2P_c t2P∧LoopOk Try.prog ρ5 Try.f26.ntmps tdP_c tdP)∨((LoopOk Try.prog ρ5 Try.f34.ntmps t2Q_c t2Q∧LoopOk Try.prog ρ5 Try.f26.ntmps tdQ_c tdQ)∧∃c:Nat,1≤c∧c≤n∧ρ5.len 621=c∧ρ5.len 661=c∧∀y,y<c→∃x:Nat,x<n∧ρ5.ci 621 0 y=x∧ρ5.ci 661 0 y=x)
theorem last_ok (ρ:Rho) {n m i off κ:Nat} {g:Nat→ByteArray} (hB:Bs ρ n m g i) (hA:LastA ρ n m g off κ) (d1:ρ.i 507=off) (d2:ρ.ci 509 0 off=κ) (h1:∀d,d<9→ρ.i (510+d)=ρ.i d):∃ρ5,Lst5 ρ ρ5 n:=by
 have h0:∀d,d<9→0≤ρ.i (510+d):=fun d hd=>by rw[h1 d hd];exact(hB.rv d hd).1
 obtain⟨ρ1,a1,⟨i601,r600,c602⟩,L1⟩:=t1_ok ρ hA hB.xi h0
 obtain⟨ρ2,a2,q2,L2⟩:=t2_ok ρ1 (hA.agree a1 (by decide))
 have a12:Agree 600 ρ ρ2:=a1.trans (a2.le (by decide))
 have hB2:Bs ρ2 n m g i:=hB.agree a12 (by decide)
 obtain⟨ρ3,a3,⟨r639,i640,q3⟩,L3⟩:=fd_ok ρ2 hB2.t.f.en hB2.t.k3 hB2.t.f.n1 hB2.t.f.n6 (κ:=κ) (i:=i) (by
  rw[cl_i (e := .var 507) (show ρ2.i 507=off from by rw[←a12.i 507 (by decide)];exact d1),←a12.ci 509 (by decide)];exact d2) hB2.xi
 have a13:Agree 600 ρ ρ3:=a12.trans (a3.le (by decide))
 generalize hw:(fun d=>mx (An ρ3 639) d n)=w
 generalize e4:putI ρ3 [(650,w 0),(651,w 1),(652,w 2),(653,w 3),(654,w 4),(655,w 5),(656,w 6),(657,w 7),(658,w 8)]=ρ4
 have a4:Agree 650 ρ3 ρ4:=by rw[←e4];exact putI_agree ρ3 rfl
 have a14:Agree 600 ρ ρ4:=a13.trans (a4.le (by decide))
 have a24:Agree 620 ρ1 ρ4:=a2.trans ((a3.le (by decide)).trans (a4.le (by decide)))
 have v4:∀d,d<9→ρ4.i (650+d)=w d:=nine (by rw[←e4];rfl) (by rw[←e4];rfl) (by rw[←e4];rfl) (by rw[←e4];rfl) (by rw[←e4];rfl) (by rw[←e4];rfl) (by rw[←e4];rfl) (by rw[←e4];rfl) (by rw[←e4];rfl)
 obtain⟨ρ5,a5,⟨i660,q5⟩,L5⟩:=td_ok ρ4 (hB.t.agree a14 (by decide))
 have a15:Agree 620 ρ1 ρ5:=a24.trans (a5.le (by decide))
 have a25:Agree 639 ρ2 ρ5:=(a3.trans (a4.le (by decide))).trans (a5.le (by decide))
 have a35:Agree 650 ρ3 ρ5:=a4.trans (a5.le (by decide))
 have er:∀x,x<n→rw_ ρ1 600 ka x=rw_ ρ3 639 ka x:=fun x hx=>by
  rw[r600,r639,rw_agree a12 (by decide),rw_agree a12 (by decide)]
  by_cases q:x=κ
  ·rw[if_pos q,if_pos q]
  ·rw[if_neg q,if_neg q];exact hB.an x hx
 have ean:∀x,x<n→An ρ1 600 x=An ρ3 639 x:=fun x hx=>An_eq (er x hx)
 have emx:∀d,mx (An ρ1 600) d n=w d:=fun d=>by rw[←hw];exact mx_congr ean
 have c4:∀d,d<9→ρ4.i (602+d)=max (max 0 (ρ4.i (520+d))) (ρ4.i (650+d)):=fun d hd=>by
  rw[←a24.i (602+d) (by omega),c602 d hd,emx,v4 d hd,←a14.i (520+d) (by omega),←hB.cut d hd]
  have:=h0 d hd
  omega
 have ePP:∀x,x<n→(NC g (ρ1.i 9) (An ρ1 600) (fun d=>ρ1.i (602+d)) x↔NC g (ρ4.i 9) (An ρ4 639) (fun d=>ρ4.i (602+d)) x):=fun x hx =>
  NC_congr (a24.i 9 (by decide)) ((ean x hx).trans (An.agree a4 (by decide) x).symm) fun d hd=>a24.i (602+d) (by omega)
 have e650:X.den ρ5 (.agg (vi 650 9))=nineV w:=by
  rw[←X.bel_den a5 (.agg (vi 650 9)) (by kernel_rfl)]
  exact nineV_eq v4
 refine⟨ρ5,a14.trans (a5.le (by decide)),by rw[←a15.i 601 (by decide)];exact i601,by rw[←a35.i 640 (by decide)];exact i640,i660,fun x hx=>by rw[rw_agree a15 (by decide),rw_agree a35 (by decide)];exact er x hx,?_,LoopOk.agree (B:=611) (by kernel_rfl) (by kernel_rfl) t1_bel (a15.le (by decide)) L1,?_,?_⟩
 ·have h:=two_row ρ4 520 650
  refine⟨h.1,fun k hp => ?_⟩
  have:=h.2 k hp
  rw[←X.belL_den a5 [.agg (vi 520 9),.agg (vi 650 9)] (by kernel_rfl),←X.bel_den a5 (.agg (vi 602 9)) (by kernel_rfl)]
  rw[←nineV_eq c4]at this
  exact this
 ·rcases q3 with⟨hb,hn⟩ | ⟨hb,c,c1,c2,c3,c4⟩
  ·left
   have h:=pfN_cy ρ5
   refine⟨⟨h.1,fun k hp => ?_⟩,LoopOk.agree (B:=650) (show fdN.S.bel 650=true by kernel_rfl) rfl (show fdN.out.belX 650=true by kernel_rfl) a35 (fdN_of L3 hb)⟩
   have:=h.2 k hp
   rw[e650,nineV_eq (w:=fun _=>0) fun d _=>by rw[←hw];exact mx_none hn]
   exact this
  ·right
   have h:=pf_cy ρ3 c3 c1 (by have:=hB.t.f.n6;omega)
   refine⟨by rw[←a35.len 641 (by decide),c3];omega,⟨h.1,fun k hp => ?_⟩,LoopOk.agree (B:=650) (show fdR.S.bel 650=true by kernel_rfl) rfl (show fdR.out.belX 650=true by kernel_rfl) a35 (fdR_of L3 hb)⟩
   have:=h.2 k hp
   rw[nineV_eq c4,show(fun d=>mx (An ρ3 639) d n)=w from hw]at this
   rw[e650,←X.belL_den a35 [ke20] (by kernel_rfl)]
   exact this
 ·have L2':∀{M:LoopX},M.S.bel 639=true→M.init.bel 639=true→M.out.belX 639=true→LoopOk Try.prog ρ2 Try.f34.ntmps t2_c M→LoopOk Try.prog ρ5 Try.f34.ntmps t2_c M:=fun s i o h=>LoopOk.agree (B:=639) s i o a25 h
  rcases q2 with⟨hb,hn⟩ | ⟨hb,c1,hL⟩
  ·rcases q5 with⟨hb5,_⟩ | ⟨_,c15,_⟩
   ·exact .inl ⟨L2' (show t2P.S.bel 639=true by kernel_rfl) rfl (show t2P.out.belX 639=true by kernel_rfl) (t2P_of L2 hb),tdP_of L5 hb5⟩
   ·rw[cnt_none fun x hx k=>hn x hx ((ePP x hx).2 k)]at c15
    exact absurd c15 (by decide)
  ·rcases q5 with⟨_,hn5⟩ | ⟨hb5,c15,hL5⟩
   ·rw[cnt_none fun x hx k=>hn5 x hx ((ePP x hx).1 k)]at c1
    exact absurd c1 (by decide)
   ·refine .inr ⟨⟨L2' (show t2Q.S.bel 639=true by kernel_rfl) rfl (show t2Q.out.belX 639=true by kernel_rfl) (t2Q_of L2 hb),tdQ_of L5 hb5⟩,_,c1,cnt_le _ n,by rw[←a25.len 621 (by decide)];exact hL.1,by rw[hL5.1];exact(cnt_iff ePP).symm,fun y hy => ?_⟩
    obtain⟨x,x1,x2,x3⟩:=cnt_sur hy
    refine⟨x,x1,?_,?_⟩
    ·rw[←a25.ci 621 (by decide),←x3];exact hL.2 x x1 x2
    ·have:=hL5.2 x x1 ((ePP x x1).1 x2)
     rwa[←cnt_iff (j:=x) fun z hz=>ePP z (by omega),x3]at this
end Go.Proofs.Ytdlifdoglhhnfaa
