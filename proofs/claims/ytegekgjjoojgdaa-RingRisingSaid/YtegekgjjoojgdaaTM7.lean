/- Parts of the proof, one behind the other. -/
import Derived.Test.YtegekgjjoojgdaaTM6
import Derived.Test.YtegekgjjoojgdaaXwM3
import Derived.Test.YtegekgjjoojgdaaTM1
import Derived.Test.YtegekgjjoojgdaaAwM2
import Derived.Test.YtegekgjjoojgdaaXwM2
/- Loops whose rounds have letters of their own: what is run once. -/
namespace Go.Proofs.Ytegekgjjoojgdaa
open Go Go.Proofs.Aw Go.Proofs.Xw
set_option maxRecDepth 100000
def n1E : IE := .op .padd .i64 (.len 191) (.lit 1)
def arF : Facts := [(.lt (.var 190) (.len 0), true), (.lt (.var 190) (.lit 0), false), (.lt (.lit 8796093022208) n1E, false)]
def atJ (e : IE) : X := .sc (.s (.cl 193 0 e))
def ksAh : List (Nat × List X × X) := [(19, [atJ (.var 192), atJ (.op .sub .i64 (.var 192) (.lit 1))], .sc (.b (.var 194)))]

/-! aj: letters {5: 192} rows 193; entered under [] -/
noncomputable def aj_c : Code := (loopsOf (Try.f9.body.getD .skip))[1]?.getD .skip
def aj_E : XS := ⟨[(3, (.slv (53, 0) 1 (.lit (0 : Int)) (.op .padd .i64 (.len 191) (.lit (1 : Int))) true)), (20, .top), (19, .top), (18, .top), (17, .top), (16, .top), (15, .top), (14, .top), (5, (.sc (.i .i64 (.len 191)))), (13, .top), (12, .top), (9, .top), (8, .top), (7, .top), (6, .top), (4, (.sc (.i .i64 (.var 190)))), (2, .top), (0, (.rl 1 (.len 0) (.var 0 [.s]) false))], [((53, 0), [(.rows 1 (.op .padd .i64 (.len 191) (.lit (1 : Int))) (.app (.len 191) (.var 191 [.s]) (.one [(.s (.cl 0 0 (.var 190)))])))])], 55⟩
def aj_S : XS := ⟨[(3, (.slv (53, 0) 1 (.lit (0 : Int)) (.op .padd .i64 (.len 191) (.lit (1 : Int))) true)), (20, .top), (19, .top), (18, .top), (17, .top), (16, .top), (15, .top), (14, .top), (5, (.sc (.i .i64 (.var 192)))), (13, .top), (12, .top), (9, .top), (8, .top), (7, .top), (6, .top), (4, (.sc (.i .i64 (.var 190)))), (2, .top), (0, (.rl 1 (.len 0) (.var 0 [.s]) false))], [((53, 0), [(.rows 1 (.op .padd .i64 (.len 191) (.lit (1 : Int))) (.var 193 [.s]))])], 55⟩
def aj_I : Bind := ⟨[(192, (.len 191))], [], [], [(193, (.op .padd .i64 (.len 191) (.lit (1 : Int))), (.app (.len 191) (.var 191 [.s]) (.one [(.s (.cl 0 0 (.var 190)))])))]⟩
def aj_ks : List Nat := [3, 20, 19, 18, 17, 16, 15, 14, 5, 13, 12, 9, 8, 7, 6, 4, 2, 0]
theorem aj_Iok : okS 2 192 aj_I (nmS aj_S aj_E) aj_S aj_E = true := by kernel_rfl
theorem aj_Ig : aj_I.ge 192 = true := by kernel_rfl
theorem aj_Eb : aj_E.bel 192 = true := by kernel_rfl
theorem aj_fits : fitsC Try.f9.ntmps aj_c = true := by kernel_rfl
theorem aj_I192 : lassoc 192 aj_I.i = some (.len 191) := by kernel_rfl
theorem aj_Ir : lassoc 193 aj_I.r = some ((.op .padd .i64 (.len 191) (.lit (1 : Int))), (.app (.len 191) (.var 191 [.s]) (.one [(.s (.cl 0 0 (.var 190)))]))) := by kernel_rfl
def aj_G_r : T (XE × XS) := (.need (.and (.lt (.var 192) (.op .padd .i64 (.len 191) (.lit (1 : Int)))) (.and (.not (.lt (.op .sub .i64 (.var 192) (.lit (1 : Int))) (.lit (0 : Int)))) (.lt (.op .sub .i64 (.var 192) (.lit (1 : Int))) (.op .padd .i64 (.len 191) (.lit (1 : Int)))))) (.ret (.normal, ⟨[(3, (.slv (53, 0) 1 (.lit (0 : Int)) (.op .padd .i64 (.len 191) (.lit (1 : Int))) true)), (20, .top), (19, .top), (18, .top), (17, .top), (16, .top), (15, .top), (14, .top), (5, (.sc (.i .i64 (.op .sub .i64 (.var 192) (.lit (1 : Int)))))), (13, .top), (12, .top), (9, .top), (8, .top), (7, .top), (6, .top), (4, (.sc (.i .i64 (.var 190)))), (2, .top), (0, (.rl 1 (.len 0) (.var 0 [.s]) false))], [((53, 0), [(.rows 1 (.op .padd .i64 (.len 191) (.lit (1 : Int))) (.upd (.op .sub .i64 (.var 192) (.lit (1 : Int))) [(.s (.cl 193 0 (.var 192)))] (.upd (.var 192) [(.s (.cl 193 0 (.op .sub .i64 (.var 192) (.lit (1 : Int)))))] (.var 193 [.s]))))])], 90⟩)))
theorem aj_G_run : (codeX (cfgL ksAh (fun _ => [])).ti (callS ⟨(cfgL ksAh (fun _ => [])), l_able, []⟩ 12) (((cfgL ksAh (fun _ => [])).ft 9).elim [] (·.ms)) 2 ((cfgL ksAh (fun _ => [])).lp 9) 1000 aj_c ([(.lt (.lit 0) (.var 192), true), (.var 194, true)]) aj_S).map (sqz aj_ks) = aj_G_r := by kernel_rfl
def aj_G_s : XS := ⟨[(3, (.slv (53, 0) 1 (.lit (0 : Int)) (.op .padd .i64 (.len 191) (.lit (1 : Int))) true)), (20, .top), (19, .top), (18, .top), (17, .top), (16, .top), (15, .top), (14, .top), (5, (.sc (.i .i64 (.op .sub .i64 (.var 192) (.lit (1 : Int)))))), (13, .top), (12, .top), (9, .top), (8, .top), (7, .top), (6, .top), (4, (.sc (.i .i64 (.var 190)))), (2, .top), (0, (.rl 1 (.len 0) (.var 0 [.s]) false))], [((53, 0), [(.rows 1 (.op .padd .i64 (.len 191) (.lit (1 : Int))) (.upd (.op .sub .i64 (.var 192) (.lit (1 : Int))) [(.s (.cl 193 0 (.var 192)))] (.upd (.var 192) [(.s (.cl 193 0 (.op .sub .i64 (.var 192) (.lit (1 : Int)))))] (.var 193 [.s]))))])], 90⟩
def aj_G_b : Bind := ⟨[(192, (.op .sub .i64 (.var 192) (.lit (1 : Int))))], [], [], [(193, (.op .padd .i64 (.len 191) (.lit (1 : Int))), (.upd (.op .sub .i64 (.var 192) (.lit (1 : Int))) [(.s (.cl 193 0 (.var 192)))] (.upd (.var 192) [(.s (.cl 193 0 (.op .sub .i64 (.var 192) (.lit (1 : Int)))))] (.var 193 [.s]))))]⟩
theorem aj_G_ok : okS 2 192 aj_G_b (nmS aj_S aj_G_s) aj_S aj_G_s = true := by kernel_rfl
theorem aj_G_g : aj_G_b.ge 192 = true := by kernel_rfl
theorem aj_G_192 : lassoc 192 aj_G_b.i = some (.op .sub .i64 (.var 192) (.lit (1 : Int))) := by kernel_rfl
theorem aj_G_rw : lassoc 193 aj_G_b.r = some ((.op .padd .i64 (.len 191) (.lit (1 : Int))), (.upd (.op .sub .i64 (.var 192) (.lit (1 : Int))) [(.s (.cl 193 0 (.var 192)))] (.upd (.var 192) [(.s (.cl 193 0 (.op .sub .i64 (.var 192) (.lit (1 : Int)))))] (.var 193 [.s])))) := by kernel_rfl
def aj_Y_r : T (XE × XS) := (.need (.and (.lt (.var 192) (.op .padd .i64 (.len 191) (.lit (1 : Int)))) (.and (.not (.lt (.op .sub .i64 (.var 192) (.lit (1 : Int))) (.lit (0 : Int)))) (.lt (.op .sub .i64 (.var 192) (.lit (1 : Int))) (.op .padd .i64 (.len 191) (.lit (1 : Int)))))) (.ret ((.exit 2), ⟨[(3, (.slv (53, 0) 1 (.lit (0 : Int)) (.op .padd .i64 (.len 191) (.lit (1 : Int))) true)), (20, .top), (19, .top), (18, .top), (17, .top), (16, .top), (15, .top), (14, .top), (5, (.sc (.i .i64 (.var 192)))), (13, .top), (12, .top), (9, .top), (8, .top), (7, .top), (6, .top), (4, (.sc (.i .i64 (.var 190)))), (2, .top), (0, (.rl 1 (.len 0) (.var 0 [.s]) false))], [((53, 0), [(.rows 1 (.op .padd .i64 (.len 191) (.lit (1 : Int))) (.var 193 [.s]))])], 69⟩)))
theorem aj_Y_run : (codeX (cfgL ksAh (fun _ => [])).ti (callS ⟨(cfgL ksAh (fun _ => [])), l_able, []⟩ 12) (((cfgL ksAh (fun _ => [])).ft 9).elim [] (·.ms)) 2 ((cfgL ksAh (fun _ => [])).lp 9) 1000 aj_c ([(.lt (.lit 0) (.var 192), true), (.var 194, false)]) aj_S).map (sqz aj_ks) = aj_Y_r := by kernel_rfl
def aj_Y_s : XS := ⟨[(3, (.slv (53, 0) 1 (.lit (0 : Int)) (.op .padd .i64 (.len 191) (.lit (1 : Int))) true)), (20, .top), (19, .top), (18, .top), (17, .top), (16, .top), (15, .top), (14, .top), (5, (.sc (.i .i64 (.var 192)))), (13, .top), (12, .top), (9, .top), (8, .top), (7, .top), (6, .top), (4, (.sc (.i .i64 (.var 190)))), (2, .top), (0, (.rl 1 (.len 0) (.var 0 [.s]) false))], [((53, 0), [(.rows 1 (.op .padd .i64 (.len 191) (.lit (1 : Int))) (.var 193 [.s]))])], 69⟩
def aj_X_r : T (XE × XS) := (.ret ((.exit 2), ⟨[(3, (.slv (53, 0) 1 (.lit (0 : Int)) (.op .padd .i64 (.len 191) (.lit (1 : Int))) true)), (20, .top), (19, .top), (18, .top), (17, .top), (16, .top), (15, .top), (14, .top), (5, (.sc (.i .i64 (.var 192)))), (13, .top), (12, .top), (9, .top), (8, .top), (7, .top), (6, .top), (4, (.sc (.i .i64 (.var 190)))), (2, .top), (0, (.rl 1 (.len 0) (.var 0 [.s]) false))], [((53, 0), [(.rows 1 (.op .padd .i64 (.len 191) (.lit (1 : Int))) (.var 193 [.s]))])], 69⟩))
theorem aj_X_run : (codeX (cfgL [] (fun _ => [])).ti (callS ⟨(cfgL [] (fun _ => [])), l_able, []⟩ 12) (((cfgL [] (fun _ => [])).ft 9).elim [] (·.ms)) 2 ((cfgL [] (fun _ => [])).lp 9) 1000 aj_c ([(.lt (.lit 0) (.var 192), false)]) aj_S).map (sqz aj_ks) = aj_X_r := by kernel_rfl
def aj_X_s : XS := ⟨[(3, (.slv (53, 0) 1 (.lit (0 : Int)) (.op .padd .i64 (.len 191) (.lit (1 : Int))) true)), (20, .top), (19, .top), (18, .top), (17, .top), (16, .top), (15, .top), (14, .top), (5, (.sc (.i .i64 (.var 192)))), (13, .top), (12, .top), (9, .top), (8, .top), (7, .top), (6, .top), (4, (.sc (.i .i64 (.var 190)))), (2, .top), (0, (.rl 1 (.len 0) (.var 0 [.s]) false))], [((53, 0), [(.rows 1 (.op .padd .i64 (.len 191) (.lit (1 : Int))) (.var 193 [.s]))])], 69⟩
noncomputable def aj : LoopX := ⟨((codeKey aj_c).getD 0), 2, 192, aj_E, noB, [], .ret ((.exit 2), aj_X_s)⟩
theorem aj_ob : aj.out.belX 200 = true := by kernel_rfl
theorem aj_Y_end : okS 2 1000 noB [] aj_X_s aj_Y_s = true := by kernel_rfl
end Go.Proofs.Ytegekgjjoojgdaa

/- What functions answer, run over letters, where something is known; each shown by running it. -/
namespace Go.Proofs.Ytegekgjjoojgdaa
open Go Go.Proofs.Aw Go.Proofs.Xw
def ksQ : List (Nat × List X × X) := [(26, [sX 0], .tup [iV 300, iV 301]), (26, [sX 1], .tup [iV 302, iV 303])]

def ah : T X := (.ret (.sc (.b (.ite (.not (.and (.ite (.or (.lt (.lit (0 : Int)) (.var 301)) (.and (.eq (.var 301) (.lit (0 : Int))) (.lt (.lit (0 : Int)) (.var 300)))) (.or (.lt (.lit (0 : Int)) (.var 303)) (.and (.eq (.var 303) (.lit (0 : Int))) (.lt (.lit (0 : Int)) (.var 302)))) (.not (.or (.lt (.lit (0 : Int)) (.var 303)) (.and (.eq (.var 303) (.lit (0 : Int))) (.lt (.lit (0 : Int)) (.var 302)))))) (.and (.not (.lt (.lit (0 : Int)) (.op .sub .i64 (.op .mul .i64 (.var 300) (.var 303)) (.op .mul .i64 (.var 301) (.var 302))))) (.not (.lt (.op .sub .i64 (.op .mul .i64 (.var 300) (.var 303)) (.op .mul .i64 (.var 301) (.var 302))) (.lit (0 : Int))))))) (.ite (.not (.ite (.or (.lt (.lit (0 : Int)) (.var 301)) (.and (.eq (.var 301) (.lit (0 : Int))) (.lt (.lit (0 : Int)) (.var 300)))) (.or (.lt (.lit (0 : Int)) (.var 303)) (.and (.eq (.var 303) (.lit (0 : Int))) (.lt (.lit (0 : Int)) (.var 302)))) (.not (.or (.lt (.lit (0 : Int)) (.var 303)) (.and (.eq (.var 303) (.lit (0 : Int))) (.lt (.lit (0 : Int)) (.var 302))))))) (.or (.lt (.lit (0 : Int)) (.var 301)) (.and (.eq (.var 301) (.lit (0 : Int))) (.lt (.lit (0 : Int)) (.var 300)))) (.lt (.lit (0 : Int)) (.op .sub .i64 (.op .mul .i64 (.var 300) (.var 303)) (.op .mul .i64 (.var 301) (.var 302))))) (.slt (.var 0) (.var 1))))))
set_option maxRecDepth 100000 in
theorem ah_run : askF ⟨cfgL ksQ (fun _ => []), l_able, []⟩ 19 ([sX 0, sX 1]) fO = ah := by kernel_rfl
end Go.Proofs.Ytegekgjjoojgdaa

/- Ring: the document's ahead is Around's order; its inner loop moves one to its place. -/
namespace Go.Proofs.Ytegekgjjoojgdaa
open Go Go.Proofs.Aw Go.Proofs.Xw Go.Proofs.Sr
set_option maxRecDepth 100000
def hfE (x y : Nat) : BE := .or (.lt (.lit 0) (.var y)) (.and (.eq (.var y) (.lit 0)) (.lt (.lit 0) (.var x)))
def eqH : BE := .ite (hfE 300 301) (hfE 302 303) (.not (hfE 302 303))
def ahE : BE := .ite (.not (.and eqH (.and (.not (.lt (.lit 0) crE)) (.not (.lt crE (.lit 0)))))) (.ite (.not eqH) (hfE 300 301) (.lt (.lit 0) crE)) (.slt (.var 0) (.var 1))
theorem ah_is : ah = .ret (.sc (.b ahE)) := rfl
theorem hf_den (ρ : Rho) (x y : Nat) : (hfE x y).den ρ = half (ρ.i x, ρ.i y) := by
  rw [Bool.eq_iff_iff, half_t]
  unfold hfE
  simp only [dor_t, dand_t, deq_t, dlt_t, IE.den, Up]
theorem ah_den {ρ : Rho} (h0 : Bd (ρ.i 300)) (h1 : Bd (ρ.i 301)) (h2 : Bd (ρ.i 302)) (h3 : Bd (ρ.i 303)) : ahE.den ρ = true ↔ cmpP (ρ.i 300, ρ.i 301) (ρ.i 302, ρ.i 303) < 0 ∨ (cmpP (ρ.i 300, ρ.i 301) (ρ.i 302, ρ.i 303) = 0 ∧ ltB (ρ.s 0) (ρ.s 1)) := by
  have hc := cr_den h0 h1 h2 h3
  generalize hC : cross (ρ.i 300, ρ.i 301) (ρ.i 302, ρ.i 303) = C at hc
  have hs : (BE.slt (.var 0) (.var 1)).den ρ = true ↔ ltB (ρ.s 0) (ρ.s 1) := by
    show Op.bytesLess (ρ.s 0).toList (ρ.s 1).toList = true ↔ _
    rw [ByteArray.toList_eq, ByteArray.toList_eq]
    exact less_cmp _ _
  have p1 := hf_den ρ 300 301
  have p2 := hf_den ρ 302 303
  have he : eqH.den ρ = true ↔ half (ρ.i 300, ρ.i 301) = half (ρ.i 302, ρ.i 303) := by
    unfold eqH
    rw [dite_t, dnot_t, p1, p2]
    cases half (ρ.i 300, ρ.i 301) <;> cases half (ρ.i 302, ρ.i 303) <;> simp
  have he' : eqH.den ρ = false ↔ ¬ half (ρ.i 300, ρ.i 301) = half (ρ.i 302, ρ.i 303) := by rw [← he]; cases eqH.den ρ <;> simp
  rw [Sr.cmp_lt, Sr.cmp_eq, hC, ← hs]
  unfold ahE
  rw [dite_t, dite_t, dnot_t, dnot_f, dnot_t, dnot_f, dand_f, dand_t, dand_f, dand_t, dnot_t, dnot_f, dnot_t, dnot_f, dlt_t, dlt_f, dlt_t, dlt_f, hc, he, he', p1]
  simp only [IE.den]
  generalize (BE.slt (.var 0) (.var 1)).den ρ = s
  cases half (ρ.i 300, ρ.i 301) <;> cases half (ρ.i 302, ρ.i 303) <;> simp
  all_goals (by_cases c1 : C = 0 <;> by_cases c2 : 0 < C <;> simp [c1, c2] <;> (try omega) <;> (constructor <;> intro h <;> (try omega) <;> (try (first | exact h | exact h (by omega) | skip))))
/-- ahead. -/
theorem ah_cy (x y : ByteArray) (hx : x.size < 9223372036854775808) (hy : y.size < 9223372036854775808) : ∃ b : Bool, (b = true ↔ ltR x y) ∧ hasBody Try.prog 19 = true ∧ ∀ n h, CY Try.prog n 19 [.sc (.string x), .sc (.string y)] h (.sc (.bool b)) [] := by
  obtain ⟨x1, x2, x3, _, x4⟩ := pt_ok hx
  obtain ⟨y1, y2, y3, _, y4⟩ := pt_ok hy
  let ρ : Rho := ⟨fun k => if k = 300 then (pt x).1 else if k = 301 then (pt x).2 else if k = 302 then (pt y).1 else if k = 303 then (pt y).2 else 0, fun _ => false, fun k => if k = 0 then x else y, fun _ => 0, fun _ _ _ => 0, fun _ _ _ => false, fun _ _ _ => ⟨#[]⟩⟩
  have b0 : Bd (ρ.i 300) := ⟨x1.1, by show (pt x).1 ≤ _; omega⟩
  have b1 : Bd (ρ.i 301) := ⟨x2.1, by show (pt x).2 ≤ _; omega⟩
  have b2 : Bd (ρ.i 302) := ⟨y1.1, by show (pt y).1 ≤ _; omega⟩
  have b3 : Bd (ρ.i 303) := ⟨y2.1, by show (pt y).2 ≤ _; omega⟩
  have bk : ∀ k, Bd (ρ.i k) → Facts.ok ρ (bnd k) := fun k h => Facts.ok_cons (by rw [dlt_f]; exact h.1) (Facts.ok_cons (by rw [dlt_f]; exact h.2) (Facts.ok_nil _))
  have nz : ∀ a b : Nat, ¬ (ρ.i a = 0 ∧ ρ.i b = 0) → (BE.and (.eq (.var a) (.lit 0)) (.eq (.var b) (.lit 0))).den ρ = false := fun a b h => by
    rw [dand_f, deq_f, deq_f]; simp only [IE.den]; omega
  have fk : Facts.ok ρ fO := all_ok (all_ok (all_ok (all_ok (bk 300 b0) (bk 301 b1)) (bk 302 b2)) (bk 303 b3)) (Facts.ok_cons (nz 300 301 fun h => x3 (Prod.ext h.1 h.2)) (Facts.ok_cons (nz 302 303 fun h => y3 (Prod.ext h.1 h.2)) (Facts.ok_nil _)))
  have a1 : X.denL ρ [sX 0] = [.sc (.string x)] := by simp [X.denL, X.den, sX, Sc.den, TE.den, ρ]
  have a2 : X.denL ρ [sX 1] = [.sc (.string y)] := by simp [X.denL, X.den, sX, Sc.den, TE.den, ρ]
  have a3 : X.denL ρ [sX 0, sX 1] = [.sc (.string x), .sc (.string y)] := by simp [X.denL, X.den, sX, Sc.den, TE.den, ρ]
  have k1 : hasBody Try.prog 26 = true ∧ ∀ n h, CY Try.prog n 26 (X.denL ρ [sX 0]) h (X.den ρ (.tup [iV 300, iV 301])) [] := by rw [a1]; exact x4
  have k2 : hasBody Try.prog 26 = true ∧ ∀ n h, CY Try.prog n 26 (X.denL ρ [sX 1]) h (X.den ρ (.tup [iV 302, iV 303])) [] := by rw [a2]; exact y4
  have g := askF_ok (c := ⟨cfgL ksQ (fun _ => []), l_able, []⟩) (f := 19) (args := [sX 0, sX 1]) (cfgL_ok (List.forall_mem_cons.2 ⟨k1, List.forall_mem_cons.2 ⟨k2, List.forall_mem_nil _⟩⟩) (fun _ _ _ => LpsOk.nil _ _ _ _)) l_able_ok fk (r := .sc (.b ahE)) ((congrArg (T.sel ρ) (ah_run.trans ah_is)).trans rfl)
  rw [a3] at g
  exact ⟨ahE.den ρ, ah_den b0 b1 b2 b3, g⟩
end Go.Proofs.Ytegekgjjoojgdaa

/- Ring: the document's inner loop moves the last one to its place. -/
namespace Go.Proofs.Ytegekgjjoojgdaa
open Go Go.Proofs.Aw Go.Proofs.Xw Go.Proofs.Sr
set_option maxRecDepth 100000
/-- A row with one more behind it. -/
def apF (f : Nat → ByteArray) (i : Nat) (x : ByteArray) : Nat → ByteArray := fun k => if k < i then f k else x
structure AjA (ρ : Rho) (n i : Nat) : Prop where
  ei : ρ.i 190 = i
  el : ρ.len 191 = i
  en : ρ.len 0 = n
  h1 : i < n
  hn : n < 100000
  z : Szs (stR ρ 0) n
  z1 : Szs (stR ρ 191) i
  s : Srt ltR (stR ρ 191) 0 i
theorem AjA.agree {ρ ρ' : Rho} {n i k : Nat} (h : AjA ρ n i) (ag : Agree k ρ ρ') (hk : 192 ≤ k) : AjA ρ' n i :=
  ⟨by rw [← ag.i 190 (by omega)]; exact h.ei, by rw [← ag.len 191 (by omega)]; exact h.el, by rw [← ag.len 0 (by omega)]; exact h.en, h.h1, h.hn, by rw [agree_st ag (by omega)]; exact h.z, by rw [agree_st ag (by omega)]; exact h.z1, by rw [agree_st ag (by omega)]; exact h.s⟩
theorem n1_den {ρ : Rho} {i : Nat} (h : ρ.len 191 = i) : n1E.den ρ = ((i + 1 : Nat) : Int) := by
  show (ρ.len 191 : Int) + 1 = _; rw [h]; omega
theorem atJ_den {ρ : Rho} {e : IE} {n : Nat} (h : e.den ρ = n) : X.den ρ (atJ e) = .sc (.string (stR ρ 193 n)) := by
  simp only [atJ, X.den, Sc.den, TE.den, h, Int.toNat_natCast]; rfl
theorem aj_Sb : aj_S.bel 194 = true := by kernel_rfl
theorem aj_init {ρ : Rho} {n i : Nat} (h : AjA ρ n i) : stR (aj_I.ap ρ) 193 = apF (stR ρ 191) i (stR ρ 0 i) := by
  funext k
  rw [ap_st aj_Ir]
  simp only [RL.row, IE.den, h.el]
  unfold apF
  by_cases c : k < i
  · rw [if_pos (by omega), if_pos c]
    simp only [cellsV, List.getElem?_cons_zero, cellS, Int.toNat_natCast]; rfl
  · rw [if_neg (by omega), if_neg c]
    simp only [scL, List.map_cons, List.map_nil, List.getElem?_cons_zero, Sc.den, TE.den, IE.den, cellS, h.ei, Int.toNat_natCast]; rfl
def ajR (n i : Nat) (f : Nat → ByteArray) (ρ : Rho) : Prop := AjA ρ n i ∧ apF (stR ρ 191) i (stR ρ 0 i) = f ∧ ∃ j : Nat, ρ.i 192 = j ∧ j ≤ i ∧ stR ρ 193 = shr f i j ∧ ∀ k, j ≤ k → k < i → ltR (f i) (f k)
theorem aj_ok (ρ : Rho) {n i : Nat} (h : AjA ρ n i) : ∃ ρf, Agree 192 ρ ρf ∧ Sw 0 (i + 1) (apF (stR ρ 191) i (stR ρ 0 i)) (stR ρf 193) ∧ Srt ltR (stR ρf 193) 0 (i + 1) ∧ LoopOk Try.prog ρf Try.f9.ntmps aj_c aj := by
  generalize hF : apF (stR ρ 191) i (stR ρ 0 i) = f
  suffices hh : ∃ (_ : Nat) (ρf : Rho), Agree aj.n ρ ρf ∧ (Sw 0 (i + 1) f (stR ρf 193) ∧ Srt ltR (stR ρf 193) 0 (i + 1)) ∧ LoopOk Try.prog ρf Try.f9.ntmps aj_c aj by
    obtain ⟨_, ρf, h1, ⟨h2, h3⟩, h4⟩ := hh
    exact ⟨ρf, h1, h2, h3, h4⟩
  have a0 := Bind.agree aj_Ig ρ
  have o := ltR_ord
  have hi0 := h.h1; have hn := h.hn
  have fs : Srt ltR f 0 i := by
    rw [← hF]
    exact h.s.congr fun k _ hk => by unfold apF; rw [if_pos hk]
  have fz : Szs f (i + 1) := fun k hk => by
    rw [← hF]; unfold apF
    split
    · exact h.z1 k (by omega)
    · exact h.z i hi0
  refine loopOk_famE (L := aj) (N := Try.f9.ntmps) (body := aj_c) (P := Try.prog) rfl aj_Eb (fun _ => aj_S) (fun _ => ajR n i f) (fun _ ρ' => Sw 0 (i + 1) f (stR ρ' 193) ∧ Srt ltR (stR ρ' 193) 0 (i + 1)) (fun _ ρ' => (ρ'.i 192).toNat) ?_
    ⟨0, aj_I.ap ρ, a0, ⟨h.agree a0 (Nat.le_refl _), by rw [agree_st a0 (by decide), agree_st a0 (by decide)]; exact hF, i, (ap_i aj_I192).trans (by show (ρ.len 191 : Int) = _; rw [h.el]), Nat.le_refl _, by rw [shr_self, aj_init h, hF], fun k h1 h2 => absurd h2 (by omega)⟩, fun E _ hE => okS_imp hE aj_Iok ρ⟩
  rintro _ ρ' ⟨hA, hf, j, hj, j2, hs, hup⟩
  have fin : (0 < j → ¬ ltR (f i) (f (j - 1))) → Sw 0 (i + 1) f (stR ρ' 193) ∧ Srt ltR (stR ρ' 193) 0 (i + 1) := fun hn => by
    rw [hs]
    exact ⟨shr_sw _ (by omega) (i - j) _ (by omega) (Nat.zero_le _), shr_srt o fs ⟨Nat.zero_le _, j2⟩ hn (fun q => hup j (Nat.le_refl _) q)⟩
  by_cases c : 0 < j
  · have v1 : stR ρ' 193 j = f i := by rw [hs]; unfold shr; rw [if_pos rfl]
    have v2 : stR ρ' 193 (j - 1) = f (j - 1) := by rw [hs]; unfold shr; rw [if_neg (by omega), if_neg (by omega)]
    obtain ⟨b, hc, hb, hcy⟩ := ah_cy (f i) (f (j - 1)) (fz _ (by omega)) (fz _ (by omega))
    let ρ1 : Rho := { ρ' with b := fun k => if k = 194 then b else ρ'.b k }
    have ag1 : Agree 194 ρ' ρ1 := ⟨fun _ _ => rfl, fun k hk => by show _ = if k = 194 then _ else _; rw [if_neg (by omega)], fun _ _ => rfl, fun _ _ => rfl, fun _ _ => rfl, fun _ _ => rfl, fun _ _ => rfl⟩
    have hb1 : ρ1.b 194 = b := by show (if 194 = 194 then b else ρ'.b 194) = b; rw [if_pos rfl]
    have e1 : IE.den ρ1 (.op .sub .i64 (.var 192) (.lit 1)) = ((j - 1 : Nat) : Int) := by show IOp.den .sub .i64 (ρ'.i 192) 1 = _; rw [hj]; exact sub_nat (b := 1) (by omega) (by omega)
    have e2 : n1E.den ρ1 = ((i + 1 : Nat) : Int) := n1_den hA.el
    have nd : (BE.and (.lt (.var 192) n1E) (.and (.not (.lt (.op .sub .i64 (.var 192) (.lit 1)) (.lit 0))) (.lt (.op .sub .i64 (.var 192) (.lit 1)) n1E))).den ρ1 = true := by
      rw [dand_t, dand_t, dnot_t, dlt_f, dlt_t, dlt_t, e1, e2]
      refine ⟨?_, ?_, ?_⟩
      · show ρ'.i 192 < _; rw [hj]; omega
      · simp only [IE.den]; omega
      · omega
    have cok : CfgOk Try.prog ρ1 (cfgL ksAh (fun _ => [])) := cfgL_ok (List.forall_mem_cons.2 ⟨⟨hb, fun n hp => by
      show CY Try.prog n 19 (X.denL ρ1 [atJ (.var 192), atJ (.op .sub .i64 (.var 192) (.lit 1))]) hp (X.den ρ1 (.sc (.b (.var 194)))) []
      rw [show X.denL ρ1 [atJ (.var 192), atJ (.op .sub .i64 (.var 192) (.lit 1))] = [.sc (.string (f i)), .sc (.string (f (j - 1)))] from by
        simp only [X.denL]
        rw [atJ_den (ρ := ρ1) (e := .var 192) (n := j) hj, atJ_den e1, show stR ρ1 193 = stR ρ' 193 from rfl, v1, v2],
        show X.den ρ1 (.sc (.b (.var 194))) = .sc (.bool b) from by simp only [X.den, Sc.den, BE.den, hb1]]
      exact hcy n hp⟩, List.forall_mem_nil _⟩) (fun _ _ _ => LpsOk.nil _ _ _ _)
    have f1 : (BE.lt (.lit 0) (.var 192)).den ρ1 = true := by rw [dlt_t]; show (0 : Int) < ρ'.i 192; rw [hj]; omega
    cases b with
    | true =>
      refine .inr ⟨0, aj_G_b.ap ρ1, ?_, ?_⟩
      · exact fam_go (c := cfgL ksAh (fun _ => [])) (Φ := [(.lt (.lit 0) (.var 192), true), (.var 194, true)]) aj_fits (XS.bel_den ag1 aj_S aj_Sb) cok (Facts.ok_cons f1 (Facts.ok_cons hb1 (Facts.ok_nil _))) aj_G_run (sel_need nd rfl) aj_G_ok
      · have ag : Agree 192 ρ' (aj_G_b.ap ρ1) := (ag1.le (by decide)).trans (Bind.agree aj_G_g _)
        have e2 : (aj_G_b.ap ρ1).i 192 = ((j - 1 : Nat) : Int) := (ap_i aj_G_192).trans e1
        refine ⟨⟨hA.agree ag (Nat.le_refl _), by rw [agree_st ag (by decide), agree_st ag (by decide)]; exact hf, j - 1, e2, by omega, ?_, fun k q1 q2 => ?_⟩, ?_, ag⟩
        · rw [← shr_step f c j2, ← hs]
          funext x
          rw [ap_st aj_G_rw]
          exact row_swp ρ1 193 (e1 := .var 192) hj e1 x
        · by_cases q : k = j - 1
          · rw [q]; exact hc.1 rfl
          · exact hup k (by omega) q2
        · show (_ : Int).toNat < (_ : Int).toNat
          rw [e2, hj]; omega
    | false =>
      refine .inl ⟨ρ1, ag1.le (by decide), ?_, XS.bel_den ag1 aj_S aj_Sb, ?_⟩
      · show Sw 0 (i + 1) f (stR ρ' 193) ∧ Srt ltR (stR ρ' 193) 0 (i + 1)
        exact fin fun _ q => by have := hc.2 q; cases this
      · exact fam_endK (c := cfgL ksAh (fun _ => [])) (Φ := [(.lt (.lit 0) (.var 192), true), (.var 194, false)]) aj_fits cok (Facts.ok_cons f1 (Facts.ok_cons hb1 (Facts.ok_nil _))) aj_Y_run (sel_need nd rfl) (fun h => nomatch h) rfl aj_Y_end
  · refine .inl ⟨ρ', Agree.refl _ _, fin fun q => absurd q c, rfl, ?_⟩
    exact fam_end (c := cfgL [] (fun _ => [])) (Φ := [(.lt (.lit 0) (.var 192), false)]) aj_fits (cN_ok ρ') (Facts.ok_cons (by rw [dlt_f]; show ρ'.i 192 ≤ 0; rw [hj]; omega) (Facts.ok_nil _)) aj_X_run rfl (fun h => nomatch h) rfl
end Go.Proofs.Ytegekgjjoojgdaa

/- The outer loop of the document's Around: what is run once. -/
namespace Go.Proofs.Ytegekgjjoojgdaa
open Go Go.Proofs.Aw Go.Proofs.Xw
set_option maxRecDepth 100000
noncomputable def lpAJ (f : Nat) : List LoopX := if Nat.beq f 9 = true then [aj] else []
theorem lpAJ_9o : othersB [aj] [1] 0 (loopsOf (Try.f9.body.getD .skip)) = true := by kernel_rfl
theorem lpAJ_9 {ρ : Rho} (h_aj : LoopOk Try.prog ρ Try.f9.ntmps aj_c aj) : LpsOk Try.prog ρ Try.f9.ntmps [aj] (Try.f9.body.getD .skip) :=
  lps_idx [1] lpAJ_9o (List.forall_mem_cons.2 ⟨look_list (c := aj_c) (Ls := [aj]) (by kernel_rfl) (List.forall_mem_cons.2 ⟨h_aj, List.forall_mem_nil _⟩), List.forall_mem_nil _⟩)
theorem lpAJ_ok {ρ : Rho} (h_aj : LoopOk Try.prog ρ Try.f9.ntmps aj_c aj) : ∀ f i, btLook f ftsT = some i → LpsOk Try.prog ρ i.ntmps (lpAJ f) i.body := by
  intro f i h
  have hi := fts_ok (f, i) (bt_of_mem _ _ (btLook_mem h))
  unfold lpAJ
  split
  · rename_i hf
    have hf := Nat.eq_of_beq_eq_true hf
    subst hf
    exact lps_row hi Try.func9 (lpAJ_9 h_aj)
  · exact LpsOk.nil _ _ _ _
noncomputable def ao_c : Code := (loopsOf (Try.f9.body.getD .skip))[0]?.getD .skip
def ao_E : XS := ⟨[(4, (.sc (.i .i64 (.lit (0 : Int))))), (3, (.k (.slice none 0 0))), (2, (.k (.slice none 0 0))), (0, (.rl 1 (.len 0) (.var 0 [.s]) false))], [], 5⟩
def ao_S : XS := ⟨[(4, iV 190), (3, .slv (9, 0) 1 (.lit 0) (.len 191) true), (2, .top), (0, kyR 0)], [((9, 0), [.rows 1 (.len 191) (.var 191 [.s])])], 40⟩
def ao_ks : List Nat := [4, 3, 2, 0]
theorem ao_Eb : ao_E.bel 190 = true := by kernel_rfl
theorem ao_fits : fitsC Try.f9.ntmps ao_c = true := by kernel_rfl
def ao_G_s : XS := ⟨[(4, (.sc (.i .i64 (.op .add .i64 (.var 190) (.lit (1 : Int)))))), (3, (.slv (53, 0) 1 (.lit (0 : Int)) (.op .padd .i64 (.len 191) (.lit (1 : Int))) true)), (2, .top), (0, (.rl 1 (.len 0) (.var 0 [.s]) false))], [((53, 0), [(.rows 1 (.op .padd .i64 (.len 191) (.lit (1 : Int))) (.var 193 [.s]))])], 72⟩
def ao_G_r : T (XE × XS) := (.ret (.normal, ⟨[(4, (.sc (.i .i64 (.op .add .i64 (.var 190) (.lit (1 : Int)))))), (3, (.slv (53, 0) 1 (.lit (0 : Int)) (.op .padd .i64 (.len 191) (.lit (1 : Int))) true)), (2, .top), (0, (.rl 1 (.len 0) (.var 0 [.s]) false))], [((53, 0), [(.rows 1 (.op .padd .i64 (.len 191) (.lit (1 : Int))) (.var 193 [.s]))])], 72⟩))
theorem ao_G_run : (codeX (cfgL [] lpAJ).ti (callS ⟨(cfgL [] lpAJ), l_able, []⟩ 12) (((cfgL [] lpAJ).ft 9).elim [] (·.ms)) 2 ((cfgL [] lpAJ).lp 9) 1000 ao_c (arF) ao_S).map (sqz ao_ks) = ao_G_r := by kernel_rfl
def ao_X_s : XS := ⟨[(4, (.sc (.i .i64 (.var 190)))), (3, (.slv (9, 0) 1 (.lit (0 : Int)) (.len 191) true)), (2, .top), (0, (.rl 1 (.len 0) (.var 0 [.s]) false))], [((9, 0), [(.rows 1 (.len 191) (.var 191 [.s]))])], 44⟩
def ao_X_r : T (XE × XS) := (.ret ((.exit 0), ⟨[(4, (.sc (.i .i64 (.var 190)))), (3, (.slv (9, 0) 1 (.lit (0 : Int)) (.len 191) true)), (2, .top), (0, (.rl 1 (.len 0) (.var 0 [.s]) false))], [((9, 0), [(.rows 1 (.len 191) (.var 191 [.s]))])], 44⟩))
theorem ao_X_run : (codeX (cfgL [] (fun _ => [])).ti (callS ⟨(cfgL [] (fun _ => [])), l_able, []⟩ 12) (((cfgL [] (fun _ => [])).ft 9).elim [] (·.ms)) 2 ((cfgL [] (fun _ => [])).lp 9) 1000 ao_c ([(.lt (.var 190) (.len 0), false)]) ao_S).map (sqz ao_ks) = ao_X_r := by kernel_rfl
def ao_A_s : XS := ⟨[(4, (.sc (.i .i64 (.lit (1 : Int))))), (3, (.sl (18, 0) 1 0 1 true)), (2, (.k (.slice none 0 0))), (0, (.rl 1 (.len 0) (.var 0 [.s]) false))], [((18, 0), [(.sc (.s (.cl 0 0 (.lit (0 : Int)))))])], 37⟩
def ao_A_r : T (XE × XS) := (.ret (.normal, ⟨[(4, (.sc (.i .i64 (.lit (1 : Int))))), (3, (.sl (18, 0) 1 0 1 true)), (2, (.k (.slice none 0 0))), (0, (.rl 1 (.len 0) (.var 0 [.s]) false))], [((18, 0), [(.sc (.s (.cl 0 0 (.lit (0 : Int)))))])], 37⟩))
theorem ao_A_run : (codeX (cfgL [] (fun _ => [])).ti (callS ⟨(cfgL [] (fun _ => [])), l_able, []⟩ 12) (((cfgL [] (fun _ => [])).ft 9).elim [] (·.ms)) 2 ((cfgL [] (fun _ => [])).lp 9) 1000 ao_c ([(.lt (.lit 0) (.len 0), true)]) ao_E).map (sqz ao_ks) = ao_A_r := by kernel_rfl
def ao_Z_s : XS := ⟨[(4, (.sc (.i .i64 (.lit (0 : Int))))), (3, (.k (.slice none 0 0))), (2, (.k (.slice none 0 0))), (0, (.rl 1 (.len 0) (.var 0 [.s]) false))], [], 9⟩
def ao_Z_r : T (XE × XS) := (.ret ((.exit 0), ⟨[(4, (.sc (.i .i64 (.lit (0 : Int))))), (3, (.k (.slice none 0 0))), (2, (.k (.slice none 0 0))), (0, (.rl 1 (.len 0) (.var 0 [.s]) false))], [], 9⟩))
theorem ao_Z_run : (codeX (cfgL [] (fun _ => [])).ti (callS ⟨(cfgL [] (fun _ => [])), l_able, []⟩ 12) (((cfgL [] (fun _ => [])).ft 9).elim [] (·.ms)) 2 ((cfgL [] (fun _ => [])).lp 9) 1000 ao_c ([(.lt (.lit 0) (.len 0), false)]) ao_E).map (sqz ao_ks) = ao_Z_r := by kernel_rfl
def ao_G_b : Bind := ⟨[(190, .op .add .i64 (.var 190) (.lit 1))], [], [], [(191, .op .padd .i64 (.len 191) (.lit 1), .var 193 [.s])]⟩
def ao_A_b : Bind := ⟨[(190, .lit 1)], [], [], [(191, .lit 1, .one [.s (.cl 0 0 (.lit 0))])]⟩
theorem ao_G_ok : okS 2 190 ao_G_b (nmS ao_S ao_G_s) ao_S ao_G_s = true := by kernel_rfl
theorem ao_A_ok : okS 2 190 ao_A_b (nmS ao_S ao_A_s) ao_S ao_A_s = true := by kernel_rfl
theorem ao_G_g : ao_G_b.ge 190 = true := by kernel_rfl
theorem ao_A_g : ao_A_b.ge 190 = true := by kernel_rfl
noncomputable def ao : LoopX := ⟨(codeKey ao_c).getD 0, 2, 190, ao_E, noB, [], .br (.lt (.lit 0) (.len 0)) (.ret (.exit 0, ao_X_s)) (.ret (.exit 0, ao_Z_s))⟩
end Go.Proofs.Ytegekgjjoojgdaa

/- Ring: the outer loop of the document's Around: at its end all is sorted. -/
namespace Go.Proofs.Ytegekgjjoojgdaa
open Go Go.Proofs.Aw Go.Proofs.Xw Go.Proofs.Sr
set_option maxRecDepth 100000
/-- Swaps in a row, done in another one that holds the same there. -/
theorem sw_lift {a b : Nat} {f h f' : Nat → ByteArray} (w : Sw a b f h) (e : ∀ k, a ≤ k → k < b → f' k = f k) : Sw a b f' (fun k => if a ≤ k ∧ k < b then h k else f' k) := by
  induction w with
  | refl =>
    have : (fun k => if a ≤ k ∧ k < b then f k else f' k) = f' := by
      funext k
      by_cases c : a ≤ k ∧ k < b
      · rw [if_pos c, e k c.1 c.2]
      · rw [if_neg c]
    rw [this]; exact .refl _
  | step i j hi hj _ ih =>
    rename_i h0 _
    have : (fun k => if a ≤ k ∧ k < b then swp h0 i j k else f' k) = swp (fun k => if a ≤ k ∧ k < b then h0 k else f' k) i j := by
      funext k
      unfold swp
      by_cases c1 : k = i
      · subst c1; rw [if_pos hi, if_pos rfl, if_pos rfl]; exact (if_pos hj).symm
      · by_cases c2 : k = j
        · subst c2; rw [if_pos hj, if_neg c1, if_pos rfl, if_neg c1, if_pos rfl]; exact (if_pos hi).symm
        · rw [if_neg c1, if_neg c2, if_neg c1, if_neg c2]
    rw [this]
    exact .step i j hi hj ih
/-- A round leads to another state. -/
theorem fam_goU {N k0 n : Nat} {body : Code} {S U : XS} {ks ms hf : List Nat} {lps : List LoopX} {ρ ρ1 : Rho} {c : Cfg} {Φ : Facts} {t : T (XE × XS)} {s : XS} {β : Bind} {nm : List (Nm × Nm)} (hfit : fitsC N body = true) (hd : S.den ρ = S.den ρ1) (cok : CfgOk Try.prog ρ1 c) (hl : LpsOk Try.prog ρ1 N lps body) (hk : Facts.ok ρ1 Φ)
    (hrun : (codeX c.ti (callS ⟨c, l_able, hf⟩ 12) ms k0 lps 1000 body Φ S).map (sqz ks) = t) (hs : t.sel ρ1 = some (.normal, s)) (hok : okS k0 n β nm U s = true) : StepF Try.prog N body k0 S U ρ (β.ap ρ1) :=
  StepF.from hd (stepF_of mixed cok.ti (callS_ok (c := ⟨c, l_able, hf⟩) cok l_able_ok 12) hl hfit hk rfl (by rw [hrun]; exact hs) hok)
theorem ao_o : othersB [aj] [0] 0 (loopsOf ao_c) = true := by kernel_rfl
theorem ao_l {ρ : Rho} (h : LoopOk Try.prog ρ Try.f9.ntmps aj_c aj) : LpsOk Try.prog ρ Try.f9.ntmps [aj] ao_c :=
  lps_idx [0] ao_o (List.forall_mem_cons.2 ⟨look_list (c := aj_c) (Ls := [aj]) (by kernel_rfl) (List.forall_mem_cons.2 ⟨h, List.forall_mem_nil _⟩), List.forall_mem_nil _⟩)
structure AoB (ρ : Rho) (n : Nat) (g : Nat → ByteArray) : Prop where
  en : ρ.len 0 = n
  hn : n < 100000
  eg : stR ρ 0 = g
  z : Szs g n
theorem AoB.agree {ρ ρ' : Rho} {n k : Nat} {g : Nat → ByteArray} (h : AoB ρ n g) (ag : Agree k ρ ρ') (hk : 190 ≤ k) : AoB ρ' n g :=
  ⟨by rw [← ag.len 0 (by omega)]; exact h.en, h.hn, by rw [agree_st ag (by omega)]; exact h.eg, h.z⟩
structure AoI (ρ : Rho) (n i : Nat) (g : Nat → ByteArray) : Prop where
  ei : ρ.i 190 = i
  el : ρ.len 191 = i
  h0 : 0 < i
  h1 : i ≤ n
  z : Szs (stR ρ 191) i
  s : Srt ltR (stR ρ 191) 0 i
  w : Sw 0 i g (fun k => if k < i then stR ρ 191 k else g k)
def aoR (n : Nat) (g : Nat → ByteArray) (s : Nat) (ρ : Rho) : Prop := AoB ρ n g ∧ (s = 0 ∨ (s = 1 ∧ ∃ i, AoI ρ n i g))
def aoS : Nat → XS
  | 0 => ao_E
  | _ => ao_S
theorem ao_ok (ρ : Rho) {n : Nat} {g : Nat → ByteArray} (h : AoB ρ n g) : ∃ ρf, Agree 190 ρ ρf ∧ (n = 0 ∨ AoI ρf n n g) ∧ LoopOk Try.prog ρf Try.f9.ntmps ao_c ao := by
  suffices hh : ∃ (_ : Nat) (ρf : Rho), Agree ao.n ρ ρf ∧ (n = 0 ∨ AoI ρf n n g) ∧ LoopOk Try.prog ρf Try.f9.ntmps ao_c ao by
    obtain ⟨_, ρf, h1, h2, h3⟩ := hh
    exact ⟨ρf, h1, h2, h3⟩
  have hn := h.hn
  refine loopOk_famE (L := ao) (N := Try.f9.ntmps) (body := ao_c) (P := Try.prog) rfl ao_Eb aoS (aoR n g) (fun _ ρ' => n = 0 ∨ AoI ρ' n n g) (fun s ρ' => match s with
      | 0 => n + 1
      | _ => (n - ρ'.i 190).toNat) ?_
    ⟨0, ρ, Agree.refl _ _, ⟨h, .inl rfl⟩, fun E _ _ => impRefl _ _⟩
  rintro s ρ' ⟨hB, rfl | ⟨rfl, i, hI⟩⟩
  · by_cases c : 0 < n
    · have e0 : stR (ao_A_b.ap ρ') 191 = fun _ => g 0 := by
        funext k
        rw [ap_st (show lassoc 191 ao_A_b.r = some (.lit 1, .one [.s (.cl 0 0 (.lit 0))]) from rfl), ← hB.eg]; rfl
      have ag := Bind.agree ao_A_g ρ'
      refine .inr ⟨1, ao_A_b.ap ρ', ?_, ⟨hB.agree ag (Nat.le_refl _), .inr ⟨rfl, 1, rfl, rfl, by decide, c, ?_, ?_, ?_⟩⟩, ?_, ag⟩
      · exact fam_goU (c := cfgL [] (fun _ => [])) (Φ := [(.lt (.lit 0) (.len 0), true)]) ao_fits rfl (cN_ok ρ') (LpsOk.nil _ _ _ _) (Facts.ok_cons (by rw [dlt_t]; show (0 : Int) < ρ'.len 0; rw [hB.en]; omega) (Facts.ok_nil _)) ao_A_run rfl ao_A_ok
      · rw [e0]; exact fun k _ => hB.z 0 c
      · exact Srt.one ltR_ord _ (Nat.le_refl _)
      · have : (fun k => if k < 1 then stR (ao_A_b.ap ρ') 191 k else g k) = g := by
          funext k
          by_cases c1 : k < 1
          · rw [if_pos c1, e0, show k = 0 by omega]
          · rw [if_neg c1]
        rw [this]; exact .refl _
      · show (n - (1 : Int)).toNat < n + 1
        omega
    · have n0 : n = 0 := by omega
      refine .inl ⟨ρ', Agree.refl _ _, .inl n0, rfl, ?_⟩
      have f0 : (BE.lt (.lit 0) (.len 0)).den ρ' = false := by rw [dlt_f]; show (ρ'.len 0 : Int) ≤ 0; rw [hB.en, n0]; decide
      exact fam_end (c := cfgL [] (fun _ => [])) (Φ := [(.lt (.lit 0) (.len 0), false)]) ao_fits (cN_ok ρ') (Facts.ok_cons f0 (Facts.ok_nil _)) ao_Z_run rfl (fun h => nomatch h) (by show (T.br _ _ _).sel ρ' = _; rw [T.sel, if_neg (by rw [f0]; decide)]; rfl)
  · have i0 := hI.h0; have i1 := hI.h1
    by_cases c : i < n
    · obtain ⟨ρ1, ag1, w, t, L⟩ := aj_ok ρ' (n := n) (i := i) ⟨hI.ei, hI.el, hB.en, c, hn, by rw [hB.eg]; exact hB.z, hI.z, hI.s⟩
      have ag := (ag1.le (by decide)).trans (Bind.agree ao_G_g ρ1)
      have e0 : stR (ao_G_b.ap ρ1) 191 = stR ρ1 193 := by
        funext k
        rw [ap_st (show lassoc 191 ao_G_b.r = some (.op .padd .i64 (.len 191) (.lit 1), .var 193 [.s]) from rfl)]; exact row_var ρ1 193 k
      have e1 : (ao_G_b.ap ρ1).i 190 = ((i + 1 : Nat) : Int) := (ap_i (show lassoc 190 ao_G_b.i = some (.op .add .i64 (.var 190) (.lit 1)) from rfl)).trans (by show IOp.den .add .i64 (ρ1.i 190) 1 = _; rw [← ag1.i 190 (by decide), hI.ei]; exact add_nat (b := 1) (by omega))
      have e2 : (ao_G_b.ap ρ1).len 191 = i + 1 := by
        rw [ap_len (show lassoc 191 ao_G_b.r = some (.op .padd .i64 (.len 191) (.lit 1), .var 193 [.s]) from rfl)]
        show ((ρ1.len 191 : Int) + 1).toNat = _
        rw [← ag1.len 191 (by decide), hI.el]; omega
      have fz : Szs (apF (stR ρ' 191) i (stR ρ' 0 i)) (i + 1) := fun k hk => by
        unfold apF
        split
        · exact hI.z k (by omega)
        · rw [hB.eg]; exact hB.z i c
      refine .inr ⟨1, ao_G_b.ap ρ1, ?_, ⟨hB.agree ag (Nat.le_refl _), .inr ⟨rfl, i + 1, e1, e2, by omega, c, by rw [e0]; exact szs_sw w (Nat.le_refl _) fz, by rw [e0]; exact t, ?_⟩⟩, ?_, ag⟩
      · have f1 : (BE.lt (.var 190) (.len 0)).den ρ1 = true := by rw [dlt_t]; show ρ1.i 190 < ρ1.len 0; rw [← ag1.i 190 (by decide), ← ag1.len 0 (by decide), hI.ei, hB.en]; omega
        exact fam_goU (c := cfgL [] lpAJ) (Φ := arF) ao_fits (XS.bel_den ag1 ao_S (by kernel_rfl)) (cfgL_ok (List.forall_mem_nil _) (lpAJ_ok L)) (ao_l L)
          (Facts.ok_cons f1 (Facts.ok_cons (by rw [dlt_f]; show 0 ≤ ρ1.i 190; rw [← ag1.i 190 (by decide), hI.ei]; omega) (Facts.ok_cons (by rw [dlt_f, n1_den (ρ := ρ1) (i := i) (by rw [← ag1.len 191 (by decide)]; exact hI.el)]; simp only [IE.den]; omega) (Facts.ok_nil _)))) ao_G_run rfl ao_G_ok
      · rw [e0]
        have q := sw_lift w (f' := fun k => if k < i then stR ρ' 191 k else g k) (fun k _ hk => by
          unfold apF
          by_cases c1 : k < i
          · rw [if_pos c1, if_pos c1]
          · rw [if_neg c1, if_neg c1, hB.eg, show k = i by omega])
        have e : (fun k => if 0 ≤ k ∧ k < i + 1 then stR ρ1 193 k else if k < i then stR ρ' 191 k else g k) = (fun k => if k < i + 1 then stR ρ1 193 k else g k) := by
          funext k
          by_cases c1 : k < i + 1
          · rw [if_pos ⟨Nat.zero_le _, c1⟩, if_pos c1]
          · rw [if_neg (by omega), if_neg (by omega), if_neg c1]
        rw [e] at q
        exact (hI.w.wide (Nat.le_refl _) (by omega)).trans q
      · show ((n : Int) - (ao_G_b.ap ρ1).i 190).toNat < ((n : Int) - ρ'.i 190).toNat
        rw [e1, hI.ei]; omega
    · have ei : i = n := by omega
      subst ei
      refine .inl ⟨ρ', Agree.refl _ _, .inr hI, rfl, ?_⟩
      have f0 : (BE.lt (.lit 0) (.len 0)).den ρ' = true := by rw [dlt_t]; show (0 : Int) < ρ'.len 0; rw [hB.en]; omega
      exact fam_end (c := cfgL [] (fun _ => [])) (Φ := [(.lt (.var 190) (.len 0), false)]) ao_fits (cN_ok ρ') (Facts.ok_cons (by rw [dlt_f]; show (ρ'.len 0 : Int) ≤ ρ'.i 190; rw [hB.en, hI.ei]; omega) (Facts.ok_nil _)) ao_X_run rfl (fun h => nomatch h) (by show (T.br _ _ _).sel ρ' = _; rw [T.sel, if_pos f0]; rfl)
end Go.Proofs.Ytegekgjjoojgdaa

/- What functions answer, run over letters, where something is known; each shown by running it. -/
namespace Go.Proofs.Ytegekgjjoojgdaa
open Go Go.Proofs.Aw Go.Proofs.Xw
noncomputable def aoX : LoopX := ⟨(codeKey ao_c).getD 0, 2, 190, ao_E, noB, [], .ret (.exit 0, ao_X_s)⟩
noncomputable def aoZ : LoopX := ⟨(codeKey ao_c).getD 0, 2, 190, ao_E, noB, [], .ret (.exit 0, ao_Z_s)⟩
noncomputable def aoX_c : Code := ao_c
noncomputable def aoZ_c : Code := ao_c
noncomputable def lpAX (f : Nat) : List LoopX := if Nat.beq f 9 = true then [aoX] else []
theorem lpAX_9o : othersB [aoX] [0] 0 (loopsOf (Try.f9.body.getD .skip)) = true := by kernel_rfl
theorem lpAX_9 {ρ : Rho} (h_aoX : LoopOk Try.prog ρ Try.f9.ntmps aoX_c aoX) : LpsOk Try.prog ρ Try.f9.ntmps [aoX] (Try.f9.body.getD .skip) :=
  lps_idx [0] lpAX_9o (List.forall_mem_cons.2 ⟨look_list (c := aoX_c) (Ls := [aoX]) (by kernel_rfl) (List.forall_mem_cons.2 ⟨h_aoX, List.forall_mem_nil _⟩), List.forall_mem_nil _⟩)
theorem lpAX_ok {ρ : Rho} (h_aoX : LoopOk Try.prog ρ Try.f9.ntmps aoX_c aoX) : ∀ f i, btLook f ftsT = some i → LpsOk Try.prog ρ i.ntmps (lpAX f) i.body := by
  intro f i h
  have hi := fts_ok (f, i) (bt_of_mem _ _ (btLook_mem h))
  unfold lpAX
  split
  · rename_i hf
    have hf := Nat.eq_of_beq_eq_true hf
    subst hf
    exact lps_row hi Try.func9 (lpAX_9 h_aoX)
  · exact LpsOk.nil _ _ _ _
noncomputable def lpAZ (f : Nat) : List LoopX := if Nat.beq f 9 = true then [aoZ] else []
theorem lpAZ_9o : othersB [aoZ] [0] 0 (loopsOf (Try.f9.body.getD .skip)) = true := by kernel_rfl
theorem lpAZ_9 {ρ : Rho} (h_aoZ : LoopOk Try.prog ρ Try.f9.ntmps aoZ_c aoZ) : LpsOk Try.prog ρ Try.f9.ntmps [aoZ] (Try.f9.body.getD .skip) :=
  lps_idx [0] lpAZ_9o (List.forall_mem_cons.2 ⟨look_list (c := aoZ_c) (Ls := [aoZ]) (by kernel_rfl) (List.forall_mem_cons.2 ⟨h_aoZ, List.forall_mem_nil _⟩), List.forall_mem_nil _⟩)
theorem lpAZ_ok {ρ : Rho} (h_aoZ : LoopOk Try.prog ρ Try.f9.ntmps aoZ_c aoZ) : ∀ f i, btLook f ftsT = some i → LpsOk Try.prog ρ i.ntmps (lpAZ f) i.body := by
  intro f i h
  have hi := fts_ok (f, i) (bt_of_mem _ _ (btLook_mem h))
  unfold lpAZ
  split
  · rename_i hf
    have hf := Nat.eq_of_beq_eq_true hf
    subst hf
    exact lps_row hi Try.func9 (lpAZ_9 h_aoZ)
  · exact LpsOk.nil _ _ _ _

def arP : T (X × XDl) := (.ret ((.slv (1, 0) 1 (.lit (0 : Int)) (.len 191) true), [((1, 0), some [(.rows 1 (.len 191) (.var 191 [.s]))])]))
set_option maxRecDepth 100000 in
theorem arP_run : heapX (cfgL [] lpAX) (callS ⟨cfgL [] lpAX, l_able, []⟩ 12) 1 9 ([kyR 0]) [] [] = arP := by kernel_rfl
def arZ : T (X × XDl) := (.ret ((.k (.slice none 0 0)), []))
set_option maxRecDepth 100000 in
theorem arZ_run : heapX (cfgL [] lpAZ) (callS ⟨cfgL [] lpAZ, l_able, []⟩ 12) 1 9 ([kyR 0]) [] [] = arZ := by kernel_rfl
end Go.Proofs.Ytegekgjjoojgdaa

/- Ring: a contract of the document's Around. -/
namespace Go.Proofs.Ytegekgjjoojgdaa
open Go Go.Proofs.Aw Go.Proofs.Xw Go.Proofs.Sr
set_option maxRecDepth 100000
theorem flat_one {α β : Type} (f : α → β) : ∀ l : List α, (l.map fun j => [f j]).flatten = l.map f
  | [] => rfl
  | a :: l => by simp [flat_one f l]
theorem strsV_eq (n : Nat) (g : Nat → ByteArray) : strsV n g = (List.range n).map fun j => AV.sc (.string (g j)) := flat_one _ _
theorem strsV_nms (n : Nat) (g : Nat → ByteArray) : nmsL (fun _ => false) (strsV n g) = true := by
  rw [strsV_eq]
  induction (List.range n) with
  | nil => rfl
  | cons a l ih => simp only [List.map_cons, nmsL, nms, ih, Bool.and_self]
theorem strsV_ro (n : Nat) (g : Nat → ByteArray) : AV.ro 1 ((strsV n g).map fun c => [c]) false = roV n g := by
  rw [strsV_eq, List.map_map]; rfl
theorem ry_den (ρ : Rho) : denO ρ [.rows 1 (.len 191) (.var 191 [.s])] = strsV (ρ.len 191) (stR ρ 191) := by
  show (rowsD ρ (.len 191) (.var 191 [.s])).flatten = _
  unfold strsV rowsD
  simp only [IE.den, Int.toNat_natCast]
  congr 1
/-- The document's Around. -/
theorem aref_cy {n : Nat} {g : Nat → ByteArray} (hn : n < 100000) (hz : Szs g n) : ∃ h, Sw 0 n g h ∧ Srt ltR h 0 n ∧ hasBody Try.prog 9 = true ∧ ∀ k hp, CY Try.prog k 9 [roV n g] hp (roV n h) [] := by
  obtain ⟨ρf, ag, hI, L⟩ := ao_ok (rho0 [] n g) (n := n) (g := g) ⟨rfl, hn, rfl, hz⟩
  have hl : ρf.len 0 = n := (ag.len 0 (by decide)).symm
  have hg : stR ρf 0 = g := agree_st ag (by decide)
  have ha : X.denL ρf [kyR 0] = [roV n g] := by simp only [X.denL, ky_den, hl, hg]
  by_cases c : 0 < n
  · have hI : AoI ρf n n g := hI.resolve_left (by omega)
    have f0 : (BE.lt (.lit 0) (.len 0)).den ρf = true := by rw [dlt_t]; show (0 : Int) < ρf.len 0; rw [hl]; omega
    have L2 : LoopOk Try.prog ρf Try.f9.ntmps aoX_c aoX := by
      intro E hE hk
      have ho : ao.out.sel ρf = aoX.out.sel ρf := by show (T.br _ _ _).sel ρf = _; rw [T.sel, if_pos f0]; rfl
      have := L E hE hk
      rw [ho] at this
      exact this
    have cok : CfgOk Try.prog ρf (cfgL [] lpAX) := cfgL_ok (List.forall_mem_nil _) (lpAX_ok L2)
    obtain ⟨g1, g2⟩ := heapX_ok (n := 1) (f := 9) (args := [kyR 0]) (h := []) (Φ := []) cok (callS_ok (c := ⟨cfgL [] lpAX, l_able, []⟩) cok l_able_ok 12) (Facts.ok_nil _) ((congrArg (T.sel ρf) arP_run).trans rfl)
    have g3 : CY Try.prog 1 9 [roV n g] [] (.sl (1, 0) 1 0 n true) [((1, 0), some (strsV n (stR ρf 191)))] := by
      have e1 : X.den ρf (.slv (1, 0) 1 (.lit 0) (.len 191) true) = .sl (1, 0) 1 0 n true := by simp only [X.den, IE.den, hI.el, Int.toNat_natCast]; rfl
      have e2 : denD ρf [((1, 0), some [X.rows 1 (.len 191) (.var 191 [.s])])] = [((1, 0), some (strsV n (stR ρf 191)))] := by
        show [((1, 0), some (denO ρf [X.rows 1 (.len 191) (.var 191 [.s])]))] = _
        rw [ry_den, hI.el]
      rw [ha, e2] at g2
      rw [e1] at g2
      exact g2
    refine ⟨_, hI.w, hI.s.congr fun k _ hk => if_pos hk, g1, fun k hp => ?_⟩
    have q := CY_ro g3 (by
      rw [← ha]
      exact X.nmsL_den ρf [kyR 0] rfl) (strsV_nms _ _) (by rw [strsV_eq]; simp) k hp
    rw [strsV_ro] at q
    rw [roV_congr (g := fun k => if k < n then stR ρf 191 k else g k) (h := stR ρf 191) (fun k hk => if_pos hk)]
    exact q
  · have n0 : n = 0 := by omega
    subst n0
    have f0 : (BE.lt (.lit 0) (.len 0)).den ρf = false := by rw [dlt_f]; show (ρf.len 0 : Int) ≤ 0; rw [hl]; decide
    have L2 : LoopOk Try.prog ρf Try.f9.ntmps aoZ_c aoZ := by
      intro E hE hk
      have ho : ao.out.sel ρf = aoZ.out.sel ρf := by show (T.br _ _ _).sel ρf = _; rw [T.sel, if_neg (by rw [f0]; decide)]; rfl
      have := L E hE hk
      rw [ho] at this
      exact this
    have cok : CfgOk Try.prog ρf (cfgL [] lpAZ) := cfgL_ok (List.forall_mem_nil _) (lpAZ_ok L2)
    obtain ⟨g1, g2⟩ := heapX_ok (n := 1) (f := 9) (args := [kyR 0]) (h := []) (Φ := []) cok (callS_ok (c := ⟨cfgL [] lpAZ, l_able, []⟩) cok l_able_ok 12) (Facts.ok_nil _) ((congrArg (T.sel ρf) arZ_run).trans rfl)
    rw [ha] at g2
    refine ⟨g, .refl _, fun i j _ _ h => absurd h (by omega), g1, fun k hp => ?_⟩
    refine CY_pu (r := .sc (.slice none 0 0)) g2 (by
      rw [← ha]
      exact X.nmsL_den ρf [kyR 0] rfl) rfl (fun C u hu => ?_) k hp
    have hu : u = .slice none 0 0 := hu
    exact ⟨none, 0, hu, Nat.le_refl _, (fun h => nomatch h), fun h => absurd rfl h⟩
end Go.Proofs.Ytegekgjjoojgdaa

/- Ring: what much lets by is no more than 600 keys. -/
namespace Go.Proofs.Ytegekgjjoojgdaa
open Go Go.Proofs.Aw Go.Proofs.Xw Go.Proofs.Sr
set_option maxRecDepth 100000
theorem first_fail (P : Nat → Prop) : ∀ n : Nat, ¬ P n → ∃ N, N ≤ n ∧ ¬ P N ∧ ∀ j, j < N → P j := by
  intro n
  induction n using Nat.strongRecOn with
  | ind n ih =>
    intro h
    by_cases c : ∀ j, j < n → P j
    · exact ⟨n, Nat.le_refl _, h, c⟩
    · obtain ⟨m, hm⟩ := Classical.not_forall.1 c
      obtain ⟨hm, hp⟩ := Classical.not_imp.1 hm
      obtain ⟨N, h1, h2, h3⟩ := ih m hm hp
      exact ⟨N, by omega, h2, h3⟩
def muC : BE := .and (.lt (.var 410) (.len 0)) (.not (.lt (.lit 200000) (.var 411)))
theorem mu_tree : ∃ c s1 s2, mu_t = .br muC (.ret (.normal, s1)) (.ret (.exit c, s2)) := ⟨_, _, _, rfl⟩
theorem mu_cy (n : Nat) (g : Nat → ByteArray) : ∃ b : Bool, (b = false → n ≤ 600) ∧ hasBody Try.prog 6 = true ∧ ∀ k hp, CY Try.prog k 6 [roV n g] hp (.sc (.bool b)) [] := by
  generalize hρ : rho0 [] n g = ρ
  have hl : ρ.len 0 = n := by rw [← hρ]; rfl
  have hg : stR ρ 0 = g := by rw [← hρ]; rfl
  obtain ⟨N, h1, h2, h3⟩ := first_fail (fun j => muC.den (mu_b.it (mu_i.ap ρ) j) = true) (if n ≤ 200000 then n else 0) (by
    by_cases c : n ≤ 200000
    · rw [if_pos c]
      have cnt := it_count (e := .lit 0) (I := 410) (β := mu_b) rfl (ρ := mu_i.ap ρ) (by rfl) n (by omega)
      have ag := (Bind.agree mu_ig ρ).trans (Bind.it_agree mu_bg (mu_i.ap ρ) n)
      unfold muC
      rw [dand_t, dlt_t]
      simp only [IE.den, cnt, ← ag.len 0 (by decide), hl]
      omega
    · rw [if_neg c]
      unfold muC
      rw [dand_t, dnot_t, dlt_f]
      show ¬ (_ ∧ (mu_i.ap ρ).i 411 ≤ 200000)
      have : (mu_i.ap ρ).i 411 = ρ.len 0 := rfl
      rw [this, hl]; omega)
  have hN : N < 9223372036854775808 := by
    by_cases c : n ≤ 200000
    · rw [if_pos c] at h1; omega
    · rw [if_neg c] at h1; omega
  obtain ⟨c, s1, s2, ht⟩ := mu_tree
  have L : LoopOk Try.prog (mu_b.it (mu_i.ap ρ) N) Try.f6.ntmps mu_c mu := by
    refine loopOk_cntG mixed tis_ok mu_run mu_fits mu_back rfl 412 mu_bel mu_ib mu_bg mu_same (I := 410) rfl rfl (Φ0 := []) rfl rfl (Facts.ok_nil _) mu_ig call0 (fun _ => LpsOk.nil _ _ _ _) N hN (fun j hj _ _ => ⟨s1, ?_⟩) (fun _ _ => ⟨.exit c, s2, (fun h => nomatch h), ?_⟩)
    · rw [ht, T.sel]; exact (if_pos (h3 j hj)).trans rfl
    · rw [ht, T.sel]; exact (if_neg h2).trans rfl
  have ag := (Bind.agree mu_ig ρ).trans (Bind.it_agree mu_bg (mu_i.ap ρ) N)
  generalize mu_b.it (mu_i.ap ρ) N = ρ1 at L ag h2
  have hr : muR = .need (.not muC) (.ret (.sc (.b (.or (.lt (.lit 200000) (.var 411)) (.lt (.lit 600) (.len 0)))))) := rfl
  have q := askF_ok (c := ⟨cfgL [] lpMu, l_able, []⟩) (f := 6) (args := [kyR 0]) (Φ := []) (cfgL_ok (List.forall_mem_nil _) (lpMu_ok L)) l_able_ok (Facts.ok_nil ρ1) (r := .sc (.b (.or (.lt (.lit 200000) (.var 411)) (.lt (.lit 600) (.len 0))))) (by
    rw [muR_run, hr]
    exact sel_need (by rw [dnot_t]; exact Bool.eq_false_iff.2 h2) rfl)
  rw [← X.belL_den ag [kyR 0] (by kernel_rfl)] at q
  simp only [X.denL, ky_den, hl, hg] at q
  refine ⟨(BE.or (.lt (.lit 200000) (.var 411)) (.lt (.lit 600) (.len 0))).den ρ1, fun hb => ?_, q⟩
  rw [dor_f, dlt_f, dlt_f] at hb
  have := hb.2
  simp only [IE.den, ← ag.len 0 (by decide), hl] at this
  omega
end Go.Proofs.Ytegekgjjoojgdaa

/- What is shown of loops, each by one run of its body over letters. -/
namespace Go.Proofs.Ytegekgjjoojgdaa
open Go Go.Proofs.Aw Go.Proofs.Xw
def kSf (inn : List X) : HK := ⟨14, [slD, cmpX], inn, rwS 201, .tup []⟩
def x7X : RL := .app (.len 0) (.var 0 [.s]) (.one [.s (.lit ⟨#[120, 55]⟩)])
def inC : List X := [.rows 1 (.len 0) x7X]
def ksA : List (Nat × List X × X) := [(6, [kyR 0], .sc (.b (.var 90))), (9, [kyR 0], kyR 202), (8, [kyR 201, kyR 202], .sc (.b (.lit true))), (8, [.rl 1 (.len 0) x7X false, kyR 0], .sc (.b (.lit true)))]
def fAl : Facts := [(.lt (.lit 0) (.len 0), true), (.lt (.lit 600) (.len 0), false)]
def fA0 : Facts := (.var 90, false) :: fAl

/-! sp: letters [430] [] [] [431] -/
noncomputable def sp_c : Code := (loopsOf (Try.f3.body.getD .skip))[0]?.getD .skip
def sp_S : XS := ⟨[(5, (.sc (.i .i64 (.var 430)))), (41, (.sc (.b (.lit false)))), (40, (.sc (.b (.lit false)))), (39, (.sc (.s (.lit ⟨#[120, 55]⟩)))), (38, (.ptrv (9, 0) 1 (.len 0) 0)), (37, (.sc (.i .i64 (.len 0)))), (36, (.rl 1 (.len 0) (.var 0 [.s]) false)), (35, (.slv (9, 0) 1 (.lit (0 : Int)) (.op .padd .i64 (.len 0) (.lit (1 : Int))) true)), (34, (.sc (.b (.lit false)))), (33, (.sc (.b (.lit false)))), (32, (.sc (.b (.lit false)))), (31, (.sc (.b (.lit true)))), (30, (.rl 1 (.len 0) (.var 0 [.s]) false)), (29, (.slv (9, 0) 1 (.lit (0 : Int)) (.len 0) true)), (28, (.sc (.i .i64 (.len 0)))), (27, (.rl 1 (.len 0) (.var 0 [.s]) false)), (26, (.slv (9, 0) 1 (.lit (0 : Int)) (.op .padd .i64 (.len 0) (.lit (1 : Int))) true)), (25, (.sc (.b (.lit false)))), (24, (.sc (.b (.lit false)))), (23, (.sc (.b (.lit true)))), (22, (.rl 1 (.len 0) (.var 202 [.s]) false)), (21, (.rl 1 (.len 0) (.var 0 [.s]) false)), (20, (.slv (15, 0) 1 (.lit (0 : Int)) (.len 0) true)), (4, (.slv (15, 0) 1 (.lit (0 : Int)) (.len 0) true)), (19, (.slv (15, 0) 1 (.lit (0 : Int)) (.len 0) true)), (18, (.slv (9, 0) 1 (.lit (0 : Int)) (.len 0) true)), (17, (.sc (.i .i64 (.len 0)))), (16, (.rl 1 (.len 0) (.var 0 [.s]) false)), (15, (.slv (9, 0) 1 (.lit (0 : Int)) (.op .padd .i64 (.len 0) (.lit (1 : Int))) true)), (3, (.slv (9, 0) 1 (.lit (0 : Int)) (.op .padd .i64 (.len 0) (.lit (1 : Int))) true)), (14, (.slv (9, 0) 1 (.lit (0 : Int)) (.op .padd .i64 (.len 0) (.lit (1 : Int))) true)), (13, (.ro 1 [[(.sc (.s (.lit ⟨#[120, 55]⟩)))]] true)), (12, (.slv (7, 0) 1 (.lit (0 : Int)) (.len 0) true)), (11, (.rl 1 (.len 0) (.var 0 [.s]) false)), (10, (.sl (5, 0) 1 0 0 true)), (9, (.sc (.b (.var 90)))), (8, (.rl 1 (.len 0) (.var 0 [.s]) false)), (7, (.sc (.b (.lit false)))), (6, (.sc (.b (.lit true)))), (2, (.sc (.b (.lit false)))), (0, (.rl 1 (.len 0) (.var 0 [.s]) false))], [((9, 0), [(.rows 1 (.op .padd .i64 (.len 0) (.lit (1 : Int))) (.app (.len 0) (.var 0 [.s]) (.one [(.s (.lit ⟨#[120, 55]⟩))])))]), ((15, 0), [(.rows 1 (.len 0) (.var 431 [.s]))])], 40⟩
def sp_Φ : Facts := ((.lt (.var 430) (.lit 0), false) :: fAl)
def sp_b : Bind := ⟨[(430, (.op .add .i64 (.var 430) (.lit (1 : Int))))], [], [], [(431, (.len 0), (.upd (.var 430) [(.s (.lit ⟨#[115, 112, 111, 105, 108, 116]⟩))] (.var 431 [.s])))]⟩
def sp_i : Bind := ⟨[(430, (.lit (0 : Int)))], [], [], [(431, (.len 0), (.var 201 [.s]))]⟩
def sp_t : T (XE × XS) := (.br (.lt (.var 430) (.len 0)) (.ret (.normal, ⟨[(5, (.sc (.i .i64 (.op .add .i64 (.var 430) (.lit (1 : Int)))))), (41, (.sc (.b (.lit false)))), (40, (.sc (.b (.lit false)))), (39, (.sc (.s (.lit ⟨#[120, 55]⟩)))), (38, (.ptrv (9, 0) 1 (.len 0) 0)), (37, (.sc (.i .i64 (.len 0)))), (36, (.rl 1 (.len 0) (.var 0 [.s]) false)), (35, (.slv (9, 0) 1 (.lit (0 : Int)) (.op .padd .i64 (.len 0) (.lit (1 : Int))) true)), (34, (.sc (.b (.lit false)))), (33, (.sc (.b (.lit false)))), (32, (.sc (.b (.lit false)))), (31, (.sc (.b (.lit true)))), (30, (.rl 1 (.len 0) (.var 0 [.s]) false)), (29, (.slv (9, 0) 1 (.lit (0 : Int)) (.len 0) true)), (28, (.sc (.i .i64 (.len 0)))), (27, (.rl 1 (.len 0) (.var 0 [.s]) false)), (26, (.slv (9, 0) 1 (.lit (0 : Int)) (.op .padd .i64 (.len 0) (.lit (1 : Int))) true)), (25, (.sc (.b (.lit false)))), (24, (.sc (.b (.lit false)))), (23, (.sc (.b (.lit true)))), (22, (.rl 1 (.len 0) (.var 202 [.s]) false)), (21, (.rl 1 (.len 0) (.var 0 [.s]) false)), (20, (.slv (15, 0) 1 (.lit (0 : Int)) (.len 0) true)), (4, (.slv (15, 0) 1 (.lit (0 : Int)) (.len 0) true)), (19, (.slv (15, 0) 1 (.lit (0 : Int)) (.len 0) true)), (18, (.slv (9, 0) 1 (.lit (0 : Int)) (.len 0) true)), (17, (.sc (.i .i64 (.len 0)))), (16, (.rl 1 (.len 0) (.var 0 [.s]) false)), (15, (.slv (9, 0) 1 (.lit (0 : Int)) (.op .padd .i64 (.len 0) (.lit (1 : Int))) true)), (3, (.slv (9, 0) 1 (.lit (0 : Int)) (.op .padd .i64 (.len 0) (.lit (1 : Int))) true)), (14, (.slv (9, 0) 1 (.lit (0 : Int)) (.op .padd .i64 (.len 0) (.lit (1 : Int))) true)), (13, (.ro 1 [[(.sc (.s (.lit ⟨#[120, 55]⟩)))]] true)), (12, (.slv (7, 0) 1 (.lit (0 : Int)) (.len 0) true)), (11, (.rl 1 (.len 0) (.var 0 [.s]) false)), (10, (.sl (5, 0) 1 0 0 true)), (9, (.sc (.b (.var 90)))), (8, (.rl 1 (.len 0) (.var 0 [.s]) false)), (7, (.sc (.b (.lit false)))), (6, (.sc (.b (.lit true)))), (2, (.sc (.b (.lit false)))), (0, (.rl 1 (.len 0) (.var 0 [.s]) false))], [((9, 0), [(.rows 1 (.op .padd .i64 (.len 0) (.lit (1 : Int))) (.app (.len 0) (.var 0 [.s]) (.one [(.s (.lit ⟨#[120, 55]⟩))])))]), ((15, 0), [(.rows 1 (.len 0) (.upd (.var 430) [(.s (.lit ⟨#[115, 112, 111, 105, 108, 116]⟩))] (.var 431 [.s])))])], 51⟩)) (.ret ((.exit 0), ⟨[(5, (.sc (.i .i64 (.var 430)))), (41, (.sc (.b (.lit false)))), (40, (.sc (.b (.lit false)))), (39, (.sc (.s (.lit ⟨#[120, 55]⟩)))), (38, (.ptrv (9, 0) 1 (.len 0) 0)), (37, (.sc (.i .i64 (.len 0)))), (36, (.rl 1 (.len 0) (.var 0 [.s]) false)), (35, (.slv (9, 0) 1 (.lit (0 : Int)) (.op .padd .i64 (.len 0) (.lit (1 : Int))) true)), (34, (.sc (.b (.lit false)))), (33, (.sc (.b (.lit false)))), (32, (.sc (.b (.lit false)))), (31, (.sc (.b (.lit true)))), (30, (.rl 1 (.len 0) (.var 0 [.s]) false)), (29, (.slv (9, 0) 1 (.lit (0 : Int)) (.len 0) true)), (28, (.sc (.i .i64 (.len 0)))), (27, (.rl 1 (.len 0) (.var 0 [.s]) false)), (26, (.slv (9, 0) 1 (.lit (0 : Int)) (.op .padd .i64 (.len 0) (.lit (1 : Int))) true)), (25, (.sc (.b (.lit false)))), (24, (.sc (.b (.lit false)))), (23, (.sc (.b (.lit true)))), (22, (.rl 1 (.len 0) (.var 202 [.s]) false)), (21, (.rl 1 (.len 0) (.var 0 [.s]) false)), (20, (.slv (15, 0) 1 (.lit (0 : Int)) (.len 0) true)), (4, (.slv (15, 0) 1 (.lit (0 : Int)) (.len 0) true)), (19, (.slv (15, 0) 1 (.lit (0 : Int)) (.len 0) true)), (18, (.slv (9, 0) 1 (.lit (0 : Int)) (.len 0) true)), (17, (.sc (.i .i64 (.len 0)))), (16, (.rl 1 (.len 0) (.var 0 [.s]) false)), (15, (.slv (9, 0) 1 (.lit (0 : Int)) (.op .padd .i64 (.len 0) (.lit (1 : Int))) true)), (3, (.slv (9, 0) 1 (.lit (0 : Int)) (.op .padd .i64 (.len 0) (.lit (1 : Int))) true)), (14, (.slv (9, 0) 1 (.lit (0 : Int)) (.op .padd .i64 (.len 0) (.lit (1 : Int))) true)), (13, (.ro 1 [[(.sc (.s (.lit ⟨#[120, 55]⟩)))]] true)), (12, (.slv (7, 0) 1 (.lit (0 : Int)) (.len 0) true)), (11, (.rl 1 (.len 0) (.var 0 [.s]) false)), (10, (.sl (5, 0) 1 0 0 true)), (9, (.sc (.b (.var 90)))), (8, (.rl 1 (.len 0) (.var 0 [.s]) false)), (7, (.sc (.b (.lit false)))), (6, (.sc (.b (.lit true)))), (2, (.sc (.b (.lit false)))), (0, (.rl 1 (.len 0) (.var 0 [.s]) false))], [((9, 0), [(.rows 1 (.op .padd .i64 (.len 0) (.lit (1 : Int))) (.app (.len 0) (.var 0 [.s]) (.one [(.s (.lit ⟨#[120, 55]⟩))])))]), ((15, 0), [(.rows 1 (.len 0) (.var 431 [.s]))])], 44⟩)))
noncomputable def sp : LoopX := ⟨((codeKey sp_c).getD 0), 0, 430, sp_S, sp_i, [], sp_t.outs⟩
set_option maxRecDepth 100000 in
theorem sp_run : (codeX (cfgL ([]) (fun _ => [])).ti (callS ⟨(cfgL ([]) (fun _ => [])), l_able, [7, 13]⟩ 12) (((cfgH (ksA) (fun _ => []) [kSf inC]).ft 3).elim [] (·.ms)) sp.k0 ((fun _ => []) 3) 1000 sp_c sp_Φ sp.S).map (sqz (sp_S.t.map (·.1))) = sp_t := by kernel_rfl
theorem sp_back : sp_t.nrm (okS sp.k0 sp.n sp_b [] sp.S) = true := by kernel_rfl
theorem sp_bel : sp_t.outs.belX 432 = true := by kernel_rfl
theorem sp_ib : sp_i.bel 430 = true := by kernel_rfl
theorem sp_ig : sp_i.ge 430 = true := by kernel_rfl
theorem sp_bg : sp_b.ge 430 = true := by kernel_rfl
theorem sp_same : sp_i.same sp_b = true := by kernel_rfl
theorem sp_Sb : sp_S.bel 432 = true := by kernel_rfl
theorem sp_fits : fitsC Try.f3.ntmps sp_c = true := by kernel_rfl
end Go.Proofs.Ytegekgjjoojgdaa

/- What functions answer, run over letters, where something is known; each shown by running it. -/
namespace Go.Proofs.Ytegekgjjoojgdaa
open Go Go.Proofs.Aw Go.Proofs.Xw
noncomputable def lpSp (f : Nat) : List LoopX := if Nat.beq f 3 = true then [sp] else []
theorem lpSp_3o : othersB [sp] [0] 0 (loopsOf (Try.f3.body.getD .skip)) = true := by kernel_rfl
theorem lpSp_3 {ρ : Rho} (h_sp : LoopOk Try.prog ρ Try.f3.ntmps sp_c sp) : LpsOk Try.prog ρ Try.f3.ntmps [sp] (Try.f3.body.getD .skip) :=
  lps_idx [0] lpSp_3o (List.forall_mem_cons.2 ⟨look_list (c := sp_c) (Ls := [sp]) (by kernel_rfl) (List.forall_mem_cons.2 ⟨h_sp, List.forall_mem_nil _⟩), List.forall_mem_nil _⟩)
theorem lpSp_ok {ρ : Rho} (h_sp : LoopOk Try.prog ρ Try.f3.ntmps sp_c sp) : ∀ f i, btLook f ftsT = some i → LpsOk Try.prog ρ i.ntmps (lpSp f) i.body := by
  intro f i h
  have hi := fts_ok (f, i) (bt_of_mem _ _ (btLook_mem h))
  unfold lpSp
  split
  · rename_i hf
    have hf := Nat.eq_of_beq_eq_true hf
    subst hf
    exact lps_row hi Try.func3 (lpSp_3 h_sp)
  · exact LpsOk.nil _ _ _ _
def kyZ : X := .ro 1 [] false

def lwM : T X := (.ret (.sc (.b (.lit true))))
set_option maxRecDepth 100000 in
theorem lwM_run : askF ⟨cfgL [(6, [kyR 0], .sc (.b (.var 90)))] (fun _ => []), l_able, [7, 13]⟩ 3 ([kyR 0]) [(.var 90, true)] = lwM := by kernel_rfl
def lwA : T X := (.need (.not (.lt (.var 430) (.len 0))) (.ret (.sc (.b (.lit true)))))
set_option maxRecDepth 100000 in
theorem lwA_run : askF ⟨cfgH ksA lpSp [kSf inC], l_able, [7, 13]⟩ 3 ([kyR 0]) fA0 = lwA := by kernel_rfl
def lwZ : T X := (.ret (.sc (.b (.lit true))))
set_option maxRecDepth 100000 in
theorem lwZ_run : askF ⟨cfgL [] (fun _ => []), l_able, [7, 13]⟩ 3 ([kyZ]) [] = lwZ := by kernel_rfl
def lwY : T X := (.ret (.sc (.b (.lit true))))
set_option maxRecDepth 100000 in
theorem lwY_run : askF ⟨cfgL [(6, [kyZ], .sc (.b (.lit false))), (9, [kyZ], kyZ)] (fun _ => []), l_able, [7, 13]⟩ 3 ([kyZ]) [] = lwY := by kernel_rfl
end Go.Proofs.Ytegekgjjoojgdaa
