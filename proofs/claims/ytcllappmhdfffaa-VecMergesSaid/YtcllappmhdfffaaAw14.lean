/- The abstract logic, part 14: names; saying less; what a function's body shows of its calls. -/
import Derived.Test.YtcllappmhdfffaaAw13
namespace Go.Proofs.Aw
open Go

mutual
/-- All names in a value satisfy p. -/
def nms (p : Nm → Bool) : AV → Bool
  | .top => true
  | .sc _ => true
  | .agg cs => nmsL p cs
  | .tup vs => nmsL p vs
  | .ptr n _ => p n
  | .sl n _ _ _ _ => p n
  | .ip cs _ => nmsL p cs
  | .ro _ es _ => nmsE p es
  | .fn _ xs ys => nmsL p xs && nmsL p ys
  | .ifc _ v => nms p v
def nmsL (p : Nm → Bool) : List AV → Bool
  | [] => true
  | v :: vs => nms p v && nmsL p vs
def nmsE (p : Nm → Bool) : List (List AV) → Bool
  | [] => true
  | e :: es => nmsL p e && nmsE p es
end
mutual
/-- Another name in each place. -/
def ren (f : Nm → Nm) : AV → AV
  | .top => .top
  | .sc v => .sc v
  | .agg cs => .agg (renL f cs)
  | .tup vs => .tup (renL f vs)
  | .ptr n off => .ptr (f n) off
  | .sl n z off len own => .sl (f n) z off len own
  | .ip cs off => .ip (renL f cs) off
  | .ro z es full => .ro z (renE f es) full
  | .fn g xs ys => .fn g (renL f xs) (renL f ys)
  | .ifc t v => .ifc t (ren f v)
def renL (f : Nm → Nm) : List AV → List AV
  | [] => []
  | v :: vs => ren f v :: renL f vs
def renE (f : Nm → Nm) : List (List AV) → List (List AV)
  | [] => []
  | e :: es => renL f e :: renE f es
end
theorem renL_length (f : Nm → Nm) : ∀ cs, (renL f cs).length = cs.length
  | [] => rfl
  | v :: vs => by simp [renL, renL_length f vs]
theorem renE_length (f : Nm → Nm) : ∀ es, (renE f es).length = es.length
  | [] => rfl
  | v :: vs => by simp [renE, renE_length f vs]
theorem renL_get (f : Nm → Nm) : ∀ (cs : List AV) (i : Nat) (c : AV), cs[i]? = some c → (renL f cs)[i]? = some (ren f c)
  | [], i, c, h => by simp at h
  | v :: vs, 0, c, h => by simp at h; simp [renL, h]
  | v :: vs, i + 1, c, h => by simpa [renL] using renL_get f vs i c (by simpa using h)
theorem nmsL_get {p : Nm → Bool} : ∀ {cs : List AV} {i : Nat} {c : AV}, nmsL p cs = true → cs[i]? = some c → nms p c = true
  | [], i, c, _, h => by simp at h
  | v :: vs, 0, c, hp, h => by simp only [nmsL, Bool.and_eq_true] at hp; simp at h; rw [← h]; exact hp.1
  | v :: vs, i + 1, c, hp, h => by simp only [nmsL, Bool.and_eq_true] at hp; exact nmsL_get hp.2 (by simpa using h)

/-- C' knows, under new names, no more than C knows. -/
structure Ctx.sub (C C' : Ctx) (f : Nm → Nm) (p : Nm → Bool) : Prop where
  w : C'.w = C.w
  mt : ∀ b, b < C.w.heap.size → C'.mt b → C.mt b
  kn : ∀ m, p m = true → C.kn (f m) → C'.kn m
  live : ∀ m, p m = true → C.kn (f m) → C'.live m → C.live (f m) ∧ C'.ρ m = C.ρ (f m)
mutual
theorem Conc.ren {C C' : Ctx} {f : Nm → Nm} {p : Nm → Bool} (h : C.sub C' f p) : ∀ (v : AV) (u : Value), nms p v = true → Conc C (Aw.ren f v) u → Conc C' v u
  | .top, _, _, _ => trivial
  | .sc _, _, _, hu => hu
  | .agg cs, _, hp, ⟨us, e, hc⟩ => ⟨us, e, ConcL.ren h cs _ hp hc⟩
  | .tup cs, _, hp, ⟨us, e, hc⟩ => ⟨us, e, ConcL.ren h cs _ hp hc⟩
  | .ptr n off, _, hp, ⟨hv, hk, hu⟩ => ⟨hv, h.kn n hp hk, fun hl => by
      obtain ⟨l, e⟩ := h.live n hp hk hl
      rw [e]; exact hu l⟩
  | .sl n z off len own, _, hp, ⟨hv, hk, hu⟩ => ⟨hv, h.kn n hp hk, fun hl => by
      obtain ⟨l, e⟩ := h.live n hp hk hl
      obtain ⟨cap, o, h1, h2, h3, h4⟩ := hu l
      refine ⟨cap, o, by rw [e]; exact h1, h2, h3, fun ho => ?_⟩
      rw [e, h.w]
      exact h4 ho⟩
  | .ip cs off, _, hp, ⟨a, h1, h2, h3, h4⟩ => ⟨a, h1, by rw [h.w]; exact h2, fun hm => h3 (h.mt _ h2 hm), ConcM.ren h a 0 cs hp h4⟩
  | .ro z es full, u, hp, hc => by
      obtain ⟨A, cap, h1, h2, h3, h4⟩ := conc_ro.1 hc
      rw [renE_length] at h1 h2 h3
      refine conc_ro.2 ⟨A, cap, h1, h2, h3, fun hne => ?_⟩
      obtain ⟨a, h5, h6, h7, h8⟩ := h4 (by
        intro e; apply hne
        have := renE_length f es
        rw [e] at this
        exact List.length_eq_zero_iff.1 this.symm)
      exact ⟨a, h5, by rw [h.w]; exact h6, fun hm => h7 (h.mt _ h6 hm), ConcE.ren h a z 0 es hp h8⟩
  | .fn g xs ys, _, hp, ⟨us, vs, e, hx, hy⟩ => by
      simp only [nms, Bool.and_eq_true] at hp
      exact ⟨us, vs, e, ConcL.ren h xs _ hp.1 hx, ConcL.ren h ys _ hp.2 hy⟩
  | .ifc t v, _, hp, ⟨x, e, hx⟩ => ⟨x, e, Conc.ren h v _ hp hx⟩
theorem ConcL.ren {C C' : Ctx} {f : Nm → Nm} {p : Nm → Bool} (h : C.sub C' f p) : ∀ (cs : List AV) (us : List Value), nmsL p cs = true → ConcL C (renL f cs) us → ConcL C' cs us
  | [], _, _, hu => hu
  | c :: cs, _, hp, ⟨u, vs, e, hc, hl⟩ => by
      simp only [nmsL, Bool.and_eq_true] at hp
      exact ⟨u, vs, e, Conc.ren h c u hp.1 hc, ConcL.ren h cs vs hp.2 hl⟩
theorem ConcM.ren {C C' : Ctx} {f : Nm → Nm} {p : Nm → Bool} (h : C.sub C' f p) (a : Addr) : ∀ (i : Nat) (cs : List AV), nmsL p cs = true → ConcM C a i (renL f cs) → ConcM C' a i cs
  | _, [], _, _ => trivial
  | i, c :: cs, hp, ⟨⟨u, hu, hc⟩, hl⟩ => by
      simp only [nmsL, Bool.and_eq_true] at hp
      exact ⟨⟨u, by rw [h.w]; exact hu, Conc.ren h c u hp.1 hc⟩, ConcM.ren h a (i + 1) cs hp.2 hl⟩
theorem ConcE.ren {C C' : Ctx} {f : Nm → Nm} {p : Nm → Bool} (h : C.sub C' f p) (a : Addr) (z : Nat) : ∀ (i : Nat) (es : List (List AV)), nmsE p es = true → ConcE C a z i (renE f es) → ConcE C' a z i es
  | _, [], _, _ => trivial
  | i, e :: es, hp, ⟨hz, hc, hl⟩ => by
      simp only [nmsE, Bool.and_eq_true] at hp
      exact ⟨by rw [← renL_length f e]; exact hz, ConcM.ren h a _ e hp.1 hc, ConcE.ren h a z (i + 1) es hp.2 hl⟩
end
mutual
theorem ren_id : ∀ (v : AV), ren id v = v
  | .top => rfl
  | .sc _ => rfl
  | .agg cs => by simp only [ren, renL_id cs]
  | .tup cs => by simp only [ren, renL_id cs]
  | .ptr _ _ => rfl
  | .sl _ _ _ _ _ => rfl
  | .ip cs _ => by simp only [ren, renL_id cs]
  | .ro _ es _ => by simp only [ren, renE_id es]
  | .fn _ xs ys => by simp only [ren, renL_id xs, renL_id ys]
  | .ifc _ v => by simp only [ren, ren_id v]
theorem renL_id : ∀ (cs : List AV), renL id cs = cs
  | [] => rfl
  | c :: cs => by simp only [renL, ren_id c, renL_id cs]
theorem renE_id : ∀ (es : List (List AV)), renE id es = es
  | [] => rfl
  | e :: es => by simp only [renE, renL_id e, renE_id es]
end
mutual
theorem nms_mono {p q : Nm → Bool} (h : ∀ m, p m = true → q m = true) : ∀ (v : AV), nms p v = true → nms q v = true
  | .top, _ => rfl
  | .sc _, _ => rfl
  | .agg cs, hp => nmsL_mono h cs hp
  | .tup cs, hp => nmsL_mono h cs hp
  | .ptr n _, hp => h n hp
  | .sl n _ _ _ _, hp => h n hp
  | .ip cs _, hp => nmsL_mono h cs hp
  | .ro _ es _, hp => nmsE_mono h es hp
  | .fn _ xs ys, hp => by
      simp only [nms, Bool.and_eq_true] at hp ⊢
      exact ⟨nmsL_mono h xs hp.1, nmsL_mono h ys hp.2⟩
  | .ifc _ v, hp => nms_mono h v hp
theorem nmsL_mono {p q : Nm → Bool} (h : ∀ m, p m = true → q m = true) : ∀ (cs : List AV), nmsL p cs = true → nmsL q cs = true
  | [], _ => rfl
  | c :: cs, hp => by
      simp only [nmsL, Bool.and_eq_true] at hp ⊢
      exact ⟨nms_mono h c hp.1, nmsL_mono h cs hp.2⟩
theorem nmsE_mono {p q : Nm → Bool} (h : ∀ m, p m = true → q m = true) : ∀ (es : List (List AV)), nmsE p es = true → nmsE q es = true
  | [], _ => rfl
  | e :: es, hp => by
      simp only [nmsE, Bool.and_eq_true] at hp ⊢
      exact ⟨nmsL_mono h e hp.1, nmsE_mono h es hp.2⟩
end

/-! ### Saying less -/
theorem tget_mem : ∀ (t : Tp) (i : Nat), tget t i = .top ∨ (i, tget t i) ∈ t
  | [], _ => .inl rfl
  | (j, v) :: l, i => by
    simp only [tget]
    split
    · rename_i h; subst h; exact .inr List.mem_cons_self
    · rcases tget_mem l i with h | h
      · exact .inl h
      · exact .inr (List.mem_cons_of_mem _ h)
theorem hget_mem : ∀ (h : Hp) (n : Nm) (cs : List AV), hget h n = some cs → (n, cs) ∈ h
  | [], _, _, h => by simp [hget] at h
  | (m, v) :: l, n, cs, h => by
    simp only [hget] at h
    split at h
    · rename_i e; subst e; cases h; exact List.mem_cons_self
    · exact List.mem_cons_of_mem _ (hget_mem l n cs h)
/-! ### From a body to its calls -/
def slots : Nat → List AV → Tp
  | _, [] => []
  | i, v :: vs => (i, v) :: slots (i + 1) vs
/-- The results that are read at the end. -/
def resK (P : Program) (σ : St) : List ResultVar → (List AV → Prop) → Prop
  | [], K => K []
  | .tmp i :: rs, K => resK P σ rs fun vs => K (tget σ.t i :: vs)
  | .cell p ty :: rs, K => loadK P σ.h ty (tget σ.t p) fun v => resK P σ rs fun vs => K (v :: vs)
def oneOf : List AV → AV
  | [v] => v
  | vs => .tup vs
/-- How a body ends that hands r back. -/
def RetP (P : Program) (rs : List ResultVar) (r : AV) (e : Exit) (σ : St) : Prop := (e = .ret ∨ e = .normal) ∧ resK P σ rs fun vs => oneOf vs = r

theorem run_load_conc {P : Program} {C : Ctx} {h : Hp} (hh : HeapOk C h) {ty : TypeId} {x : AV} {u : Value} {K : AV → Prop} (hc : Conc C x u) (hk : loadK P h ty x K) : ∃ a v r, u = .pointer (some a) ∧ (loadVar ty a).run P C.w = .ok r C.w ∧ Conc C v r ∧ K v := by
  unfold loadK at hk
  split at hk
  · rename_i m off
    split at hk
    · rename_i cs hg
      obtain ⟨ag, v, hb, hr, hv⟩ := rdK_rd hk
      simp only [Conc] at hc
      have h2 := hc.2.2 (hh.get hg)
      obtain ⟨r, hrun, hcr⟩ := run_loadVar_rd (P := P) (a := ⟨C.ρ m, 0, none⟩) hb (obj_row (hh.obj m cs hg)) hr
      rw [add_mk, Nat.zero_add] at hrun
      exact ⟨_, v, r, h2, hrun, hcr, hv⟩
    · exact hk.elim
  · rename_i cs off
    obtain ⟨ag, v, hb, hr, hv⟩ := rdK_rd hk
    simp only [Conc] at hc
    obtain ⟨ad, h2, _, _, hM⟩ := hc
    obtain ⟨r, hrun, hcr⟩ := run_loadVar_rd (P := P) (a := ad) hb (fun j c hj => by simpa using hM.get j c hj) hr
    exact ⟨_, v, r, h2, hrun, hcr, hv⟩
  · exact hk.elim
def resF (tmps : Array Value) : ResultVar → Sem Value
  | .tmp t => pure (tmps.getD t undef)
  | .cell a t => do loadVar t (← asAddr (tmps.getD a undef))
theorem run_asAddr (P : Program) (a : Addr) (w : World) : (asAddr (.pointer (some a))).run P w = .ok a w := rfl
theorem run_resK {P : Program} {C : Ctx} {σ : St} {tmps : Array Value} (hh : HeapOk C σ.h) (ht : ∀ i, Conc C (tget σ.t i) (tmps.getD i undef)) : ∀ (rs : List ResultVar) (K : List AV → Prop), resK P σ rs K →
    ∃ vs us, (rs.mapM (resF tmps)).run P C.w = .ok us C.w ∧ ConcL C vs us ∧ K vs
  | [], K, h => ⟨[], [], rfl, by simp only [ConcL], h⟩
  | .tmp i :: rs, K, h => by
    simp only [resK] at h
    obtain ⟨vs, us, h1, h2, h3⟩ := run_resK hh ht rs _ h
    refine ⟨tget σ.t i :: vs, tmps.getD i undef :: us, ?_, by simp only [ConcL]; exact ⟨_, _, rfl, ht i, h2⟩, h3⟩
    simp only [List.mapM_cons, Sem.run_bind, resF, Sem.run_pure, Result.andThen_ok, h1]
  | .cell p ty :: rs, K, h => by
    simp only [resK] at h
    obtain ⟨a, v, r, hu, hrun, hcr, hk⟩ := run_load_conc hh (ht p) h
    obtain ⟨vs, us, h1, h2, h3⟩ := run_resK hh ht rs _ hk
    refine ⟨v :: vs, r :: us, ?_, by simp only [ConcL]; exact ⟨_, _, rfl, hcr, h2⟩, h3⟩
    have e : (resF tmps (.cell p ty)).run P C.w = .ok r C.w := by
      simp only [resF, Sem.run_bind, hu, run_asAddr, Result.andThen_ok, hrun]
    simp only [List.mapM_cons, Sem.run_bind, e, Result.andThen_ok, h1, Sem.run_pure]
theorem results_eq (fn : Func) (tmps : Array Value) : results fn tmps = (do
    let vs ← fn.results.mapM (resF tmps)
    pure (if h : vs.size = 1 then vs[0] else .tuple vs)) := by
  unfold results
  congr 1
theorem run_results {P : Program} {C : Ctx} {σ : St} {a : Act} {fn : Func} (hh : HeapOk C σ.h) (ht : TOk C σ.t a) {K : List AV → Prop} (hk : resK P σ fn.results.toList K) : ∃ vs u, (results fn a.tmps).run P C.w = .ok u C.w ∧ Conc C (oneOf vs) u ∧ K vs := by
  obtain ⟨vs, us, h1, h2, h3⟩ := run_resK hh ht fn.results.toList K hk
  refine ⟨vs, if h : us.toArray.size = 1 then us.toArray[0] else .tuple us.toArray, ?_, ?_, h3⟩
  · rw [results_eq, Array.mapM_eq_mapM_toList]
    have e : (List.toArray <$> fn.results.toList.mapM (resF a.tmps) : Sem (Array Value)).run P C.w = .ok us.toArray C.w := by
      rw [map_eq_pure_bind]
      simp only [Sem.run_bind, h1, Sem.run_pure, Result.andThen_ok]
    simp only [Sem.run_bind, e, Sem.run_pure, Result.andThen_ok]
  · have hl := h2.length
    match vs, us, hl, h2 with
    | [], [], _, _ => simp only [oneOf, List.size_toArray, List.length_nil, Nat.zero_ne_one, dite_false, Conc]; exact ⟨_, rfl, by simp only [ConcL]⟩
    | [v], [u], _, h2 =>
      simp only [ConcL] at h2
      obtain ⟨u', vs', e, hc, _⟩ := h2
      simp only [List.cons.injEq] at e
      simp only [oneOf, List.size_toArray, List.length_singleton, dite_true]
      rw [e.1]; exact hc
    | v :: v' :: vs, u :: u' :: us, _, h2 =>
      have : ¬ (u :: u' :: us).toArray.size = 1 := by simp
      simp only [oneOf, this, dite_false, Conc]
      exact ⟨_, rfl, h2⟩
end Go.Proofs.Aw
