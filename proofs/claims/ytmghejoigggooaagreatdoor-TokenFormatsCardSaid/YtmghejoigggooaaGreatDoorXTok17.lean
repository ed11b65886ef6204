/-
  THE LEXER, 17: the Replacer, from its making to its answer; Quote.
-/
import Derived.Test.YtmghejoigggooaaGreatDoorXTok16
namespace Go.Av
open Go Go.RowKit Go.Proofs
set_option linter.unusedSimpArgs false
set_option linter.unusedVariables false

set_option maxRecDepth 100000 in
set_option maxHeartbeats 1600000 in
theorem do_first (b : Nat) (w : World) (Q : World → Prop)
    (h0 : w.cell? ⟨b, 0, none⟩ = some (.int .u32 0)) (h1 : w.cell? ⟨b, 0 + 1, none⟩ = some (.int .i32 0)) (f0 : w.frozen? ⟨b, 0, none⟩ = false) (f1 : w.frozen? ⟨b, 0 + 1, none⟩ = false)
    (hf : Calls Tryz.prog 51 #[.pointer (some ⟨b, 0, none⟩)] (w.setCell ⟨b, 0 + 1, none⟩ (.int .i32 1)) fun e w2 => e = .returned (.tuple #[]) ∧ Q w2)
    (hQ : ∀ w2, Q w2 → w2.cell? ⟨b, 0, none⟩ = some (.int .u32 0) ∧ w2.cell? ⟨b, 0 + 1, none⟩ = some (.int .i32 1) ∧ w2.frozen? ⟨b, 0, none⟩ = false ∧ w2.frozen? ⟨b, 0 + 1, none⟩ = false) :
    Calls Tryz.prog 50 #[.pointer (some ⟨b, 0, none⟩), .func (.func 51) #[.pointer (some ⟨b, 0, none⟩)] #[]] w fun e w' => e = .returned (.tuple #[]) ∧
      ∃ w2, Q w2 ∧ w' = (w2.drew.setCell ⟨b, 0, none⟩ (.int .u32 1)).setCell ⟨b, 0 + 1, none⟩ (.int .i32 0) := by
  have hl := run_call_load (P := Tryz.prog) Tryz.func77 (by kernel_rfl) (by kernel_rfl) (by kernel_rfl) .u32 (by kernel_rfl) h0
  have hnot : ∀ (x : Bool) (w : World), (Op.unary .not (.bool x)).run Tryz.prog w = .ok (.bool (!x)) w := fun _ _ => rfl
  have hs := slow_any b w Q h0 h1 f0 f1 hf hQ
  clear hf hQ
  go_enter Tryz.func50, Tryz.ntmps50
  go_wp2_with (first | (go_at_call 69; refine hs.mono ?_; rintro e w' ⟨rfl, hq⟩) | (go_at_call 68; go_in))
  go_end0
  exact ⟨rfl, hq⟩

theorem cells_iface {t : TypeId} {v : Value} {KL : List AV → Prop} {tL : Tag KL} : withCells_ (.sc (.iface t v)) KL tL = KL [.sc (.iface t v)] := cells_sc rfl

section
variable (G : Glob)

theorem f51 (b : Nat) (g : Option Nat) (hg : ∀ x, g = some x → ¬ x = b) : FnSpec G Tryz.prog 51 [.sc (.pointer (some ⟨b, 0, none⟩))] (repS b 0 1 (.sc .nilIface) (.own g 9 1 oldnew) :: tokS g 9 4) fun r σ =>
    r = .tup [] ∧ ∃ br g2, ¬ br = b ∧ σ = [repS b 0 1 (.sc (.iface 119 (.pointer (some ⟨br, 0, none⟩)))) .nil, (br, .cells 118 (tabF repF (.own g2 9 1 [[.str [92]], [.str [34]]])))] := by
  refine FnSpec.w c51 ?_
  unfold s51 r51
  simp -dsimp -implicitDefEqProofs only [EV1, EV2, EV3, EV4, Nat.reduceEqDiff, ↓reduceIte, List.contains_cons, List.contains_nil, Nat.reduceBEq, Bool.or_false, Bool.false_or, Bool.or_true, Bool.true_or, Bool.not_true, Bool.not_false, reduceCtorEq, List.map_cons, List.map_nil, BEq.rfl, retQ_ret, retQ_normal, RX_nil, RX_tmp, RX_cell, one_nil, one_one, one_two, argEnv_nil, argEnv_cons, Nat.reduceAdd, List.length_cons, List.length_nil, List.cons_append, List.nil_append, List.drop_succ_cons, List.drop_zero, List.drop_nil, List.take_succ_cons, List.take_zero, List.headD_cons, Nat.reduceLeDiff, true_and, and_true, eq_self, Nat.le_refl, Nat.reduceLT, List.getD_cons_zero, List.getD_cons_succ]
  refine CALL_spec (repS b 0 1 (.sc .nilIface) (.own g 9 1 oldnew) :: tokS g 9 4) [] (f70 G b g hg).v (AVleA.rfl' _) (by rw [List.append_nil]; exact SubN.refl _) ?_
  rintro r σ' ⟨br, g2, rfl, hbr, rfl⟩
  simp only [repS, List.append_nil, List.cons_append, List.nil_append]
  (try simp -dsimp -implicitDefEqProofs only [EV1, EV2, EV3, EV4, Nat.reduceEqDiff, ↓reduceIte, List.contains_cons, List.contains_nil, Nat.reduceBEq, Bool.or_false, Bool.false_or, Bool.or_true, Bool.true_or, Bool.not_true, Bool.not_false, reduceCtorEq, List.map_cons, List.map_nil, BEq.rfl, retQ_ret, retQ_normal, RX_nil, RX_tmp, RX_cell, one_nil, one_one, one_two, argEnv_nil, argEnv_cons, Nat.reduceAdd, List.length_cons, List.length_nil, List.cons_append, List.nil_append, List.drop_succ_cons, List.drop_zero, List.drop_nil, List.take_succ_cons, List.take_zero, List.headD_cons, Nat.reduceLeDiff, true_and, and_true, eq_self, Nat.le_refl, Nat.reduceLT, List.getD_cons_zero, List.getD_cons_succ, Int.reduceToNat, UInt8.reduceToNat, Nat.reduceMul, Nat.reduceAdd, Nat.reduceSub, Int.reduceLT, Int.reduceLE, Int.reduceAdd, Int.reduceSub, Int.reduceMul, Int.reduceEq, Int.reduceNe, Int.reduceNeg, Int.reduceTDiv, Int.reduceTMod, decide_true, decide_false, Nat.zero_add, Nat.mul_one, Int.cast_ofNat_Int, Int.toNat_zero, Bool.true_eq_false, Bool.false_eq_true, not_true_eq_false, not_false_eq_true, wrap_i64, ne_eq, Option.map_some, Bool.true_and, Bool.and_true, Bool.false_and, Bool.and_false, hbr, splice, cells_iface])
  refine ⟨_, [repS b 0 1 (.sc (.iface 119 (.pointer (some ⟨br, 0, none⟩)))) .nil, (br, .cells 118 (tabF repF (.own g2 9 1 [[.str [92]], [.str [34]]])))], AVle.rfl' _, ?_, rfl, br, g2, hbr, rfl⟩
  simp only [repS]
  exact ⟨by intro q hq; simp at hq ⊢; grind, by simp [Store.keys] <;> grind⟩

theorem f50 (b : Nat) (g : Option Nat) (hg : ∀ x, g = some x → ¬ x = b) : FnSpec G Tryz.prog 50 [.sc (.pointer (some ⟨b, 0, none⟩)), .sc (.func (.func 51) #[.pointer (some ⟨b, 0, none⟩)] #[])] (repS b 0 0 (.sc .nilIface) (.own g 9 1 oldnew) :: tokS g 9 4) fun r σ =>
    r = .tup [] ∧ ∃ br g2, ¬ br = b ∧ σ = [repS b 1 0 (.sc (.iface 119 (.pointer (some ⟨br, 0, none⟩)))) .nil, (br, .cells 118 (tabF repF (.own g2 9 1 [[.str [92]], [.str [34]]])))] := by
  refine ⟨⟨_, Tryz.func50, by kernel_rfl, by kernel_rfl⟩, fun ρ w vs hS hA => ?_⟩
  obtain ⟨u, v, rfl, h1, h2⟩ := vs_two hA
  simp only [Rep] at h1 h2
  subst h1 h2
  -- what lies in the Replacer
  have cellsOf : ∀ (σ : Store) (w : World) (dn mu : Int) (r o : AV), Sat G (σ ++ ρ) w → σ.get b = some (.cells 78 [.int .u32 dn, .int .i32 mu, .int .u32 0, r, o]) →
      w.cell? ⟨b, 0, none⟩ = some (.int .u32 dn) ∧ w.cell? ⟨b, 0 + 1, none⟩ = some (.int .i32 mu) ∧ w.frozen? ⟨b, 0, none⟩ = false ∧ w.frozen? ⟨b, 0 + 1, none⟩ = false := by
    intro σ w dn mu r o hS hg
    obtain ⟨vs, hh, _, hr⟩ := hS.obj b _ (List.mem_append.2 (.inl (Store.get_mem hg)))
    simp only [RepL, Rep] at hr
    obtain ⟨u0, us, e0, rfl, u1, us1, e1, rfl, rest⟩ := hr
    subst e1
    have g0 : vs[0]? = some (.int .u32 dn) := by rw [← Array.getElem?_toList, e0]; rfl
    have g1 : vs[1]? = some (.int .i32 mu) := by rw [← Array.getElem?_toList, e0]; rfl
    simp [World.cell?, World.frozen?, hh, g0, g1]
  obtain ⟨a0, a1, a2, a3⟩ := cellsOf _ w 0 0 (.sc .nilIface) (.own g 9 1 oldnew) hS (by simp [repS, Store.get])
  obtain ⟨ev1, hS1⟩ := hS.setCell (b := b) (o := 1) (x := .int .i32 1) (v := .int .i32 1) (by simp [repS, Store.get]; exact ⟨rfl, rfl⟩) (by simp only [Rep]) rfl (by simp)
  have e1 : Store.set (repS b 0 0 (.sc .nilIface) (.own g 9 1 oldnew) :: tokS g 9 4) b (.cells 78 (List.set [.int .u32 0, .int .i32 0, .int .u32 0, .sc .nilIface, .own g 9 1 oldnew] 1 (.int .i32 1))) = repS b 0 1 (.sc .nilIface) (.own g 9 1 oldnew) :: tokS g 9 4 := by
    simp [repS, Store.set]
  rw [e1] at ev1 hS1
  have hf := (f51 G b g hg).2 ρ _ #[.pointer (some ⟨b, 0, none⟩)] hS1 (by simp only [RepL, Rep]; exact ⟨_, _, rfl, rfl, rfl⟩)
  refine (do_first b w (fun w2 => ∃ br g2, ¬ br = b ∧ Sat G ([repS b 0 1 (.sc (.iface 119 (.pointer (some ⟨br, 0, none⟩)))) .nil, (br, .cells 118 (tabF repF (.own g2 9 1 [[.str [92]], [.str [34]]])))] ++ ρ) w2 ∧
      Ev (repS b 0 1 (.sc .nilIface) (.own g 9 1 oldnew) :: tokS g 9 4) (w.setCell ⟨b, 1, none⟩ (.int .i32 1)) [repS b 0 1 (.sc (.iface 119 (.pointer (some ⟨br, 0, none⟩)))) .nil, (br, .cells 118 (tabF repF (.own g2 9 1 [[.str [92]], [.str [34]]])))] w2) a0 a1 a2 a3 ?_ ?_).mono ?_
  · refine hf.mono ?_
    rintro e w2 ⟨v, r, σ2, rfl, ⟨rfl, br, g2, hbr, rfl⟩, s2, ev2, rr⟩
    simp only [Rep, RepL] at rr
    obtain ⟨vs, rfl, hv⟩ := rr
    have : vs = #[] := by apply Array.ext'; exact hv
    subst this
    exact ⟨rfl, br, g2, hbr, s2, ev2⟩
  · rintro w2 ⟨br, g2, hbr, s2, ev2⟩
    exact cellsOf _ w2 0 1 (.sc (.iface 119 (.pointer (some ⟨br, 0, none⟩)))) .nil s2 (by simp [repS, Store.get])
  · rintro e w' ⟨rfl, w2, ⟨br, g2, hbr, s2, ev2⟩, rfl⟩
    have d : Ev _ w2 [repS b 0 1 (.sc (.iface 119 (.pointer (some ⟨br, 0, none⟩)))) .nil, (br, .cells 118 (tabF repF (.own g2 9 1 [[.str [92]], [.str [34]]])))] w2.drew := Ev.drew
    have s3 : Sat G ([repS b 0 1 (.sc (.iface 119 (.pointer (some ⟨br, 0, none⟩)))) .nil, (br, .cells 118 (tabF repF (.own g2 9 1 [[.str [92]], [.str [34]]])))] ++ ρ) w2.drew :=
      s2.step d s2.nodup_left (fun b hb => .inl hb) (fun b x hx => (s2.obj b x (List.mem_append.2 (.inl hx))).keep d rfl)
    obtain ⟨ev4, s4⟩ := s3.setCell (b := b) (o := 0) (x := .int .u32 1) (v := .int .u32 1) (by simp [repS, Store.get]; exact ⟨rfl, rfl⟩) (by simp only [Rep]) rfl (by simp)
    obtain ⟨ev5, s5⟩ := s4.setCell (b := b) (o := 1) (x := .int .i32 0) (v := .int .i32 0) (by simp [repS, Store.get, Store.set]; exact ⟨rfl, rfl⟩) (by simp only [Rep]) rfl (by simp)
    refine ⟨.tuple #[], .tup [], _, rfl, ⟨rfl, br, g2, hbr, rfl⟩, ?_, ?_, by simp [Rep, RepL]⟩
    · simpa [repS, Store.set] using s5
    · have := ((ev1.trans ev2).trans d).trans (ev4.trans ev5)
      simpa [repS, Store.set] using this

theorem meth119 (p : Value) : Meth Tryz.prog (.iface 119 p) "Replace" 139 p := by
  intro w vs
  have hm : (method (Tryz.prog.types.size + Made.depth) 119 p "Replace").run Tryz.prog w = .ok (139, p) w := by kernel_rfl
  simp only [callMethod, Sem.run_bind, run_program, Result.andThen_ok, hm]

theorem f36 (b : Nat) (g : Option Nat) (hg : ∀ x, g = some x → ¬ x = b) (s : List UInt8) (hs : s.length < 1000000) :
    FnSpec G Tryz.prog 36 [.sc (.pointer (some ⟨b, 0, none⟩)), .str s] (repS b 0 0 (.sc .nilIface) (.own g 9 1 oldnew) :: tokS g 9 4) fun r σ => r = .str (escS s) ∧ σ = [] := by
  refine FnSpec.w c36 ?_
  unfold s36 r36
  simp -dsimp -implicitDefEqProofs only [EV1, EV2, EV3, EV4, Nat.reduceEqDiff, ↓reduceIte, List.contains_cons, List.contains_nil, Nat.reduceBEq, Bool.or_false, Bool.false_or, Bool.or_true, Bool.true_or, Bool.not_true, Bool.not_false, reduceCtorEq, List.map_cons, List.map_nil, BEq.rfl, retQ_ret, retQ_normal, RX_nil, RX_tmp, RX_cell, one_nil, one_one, one_two, argEnv_nil, argEnv_cons, Nat.reduceAdd, List.length_cons, List.length_nil, List.cons_append, List.nil_append, List.drop_succ_cons, List.drop_zero, List.drop_nil, List.take_succ_cons, List.take_zero, List.headD_cons, Nat.reduceLeDiff, true_and, and_true, eq_self, Nat.le_refl, Nat.reduceLT, List.getD_cons_zero, List.getD_cons_succ]
  refine CALL_spec (repS b 0 0 (.sc .nilIface) (.own g 9 1 oldnew) :: tokS g 9 4) [] (f50 G b g hg).v (AVleA.rfl' _) (by rw [List.append_nil]; exact SubN.refl _) ?_
  rintro r σ' ⟨rfl, br, g2, hbr, rfl⟩
  simp only [repS, List.append_nil, List.cons_append, List.nil_append]
  (try simp -dsimp -implicitDefEqProofs only [EV1, EV2, EV3, EV4, Nat.reduceEqDiff, ↓reduceIte, List.contains_cons, List.contains_nil, Nat.reduceBEq, Bool.or_false, Bool.false_or, Bool.or_true, Bool.true_or, Bool.not_true, Bool.not_false, reduceCtorEq, List.map_cons, List.map_nil, BEq.rfl, retQ_ret, retQ_normal, RX_nil, RX_tmp, RX_cell, one_nil, one_one, one_two, argEnv_nil, argEnv_cons, Nat.reduceAdd, List.length_cons, List.length_nil, List.cons_append, List.nil_append, List.drop_succ_cons, List.drop_zero, List.drop_nil, List.take_succ_cons, List.take_zero, List.headD_cons, Nat.reduceLeDiff, true_and, and_true, eq_self, Nat.le_refl, Nat.reduceLT, List.getD_cons_zero, List.getD_cons_succ, Int.reduceToNat, UInt8.reduceToNat, Nat.reduceMul, Nat.reduceAdd, Nat.reduceSub, Int.reduceLT, Int.reduceLE, Int.reduceAdd, Int.reduceSub, Int.reduceMul, Int.reduceEq, Int.reduceNe, Int.reduceNeg, Int.reduceTDiv, Int.reduceTMod, decide_true, decide_false, Nat.zero_add, Nat.mul_one, Int.cast_ofNat_Int, Int.toNat_zero, Bool.true_eq_false, Bool.false_eq_true, not_true_eq_false, not_false_eq_true, wrap_i64, ne_eq, Option.map_some, Bool.true_and, Bool.and_true, Bool.false_and, Bool.and_false])
  refine INV_spec (meth119 _) ?_
  refine CALL_spec (R := fun r σ => r = .str (escS s) ∧ σ = []) (args' := [.str s]) (σf := [(br, .cells 118 (tabF repF (.own g2 9 1 [[.str [92]], [.str [34]]])))]) [] ?_ (AVleA.rfl' _) ?_ ?_
  · have := f139 G br g2 s hs
    exact ⟨139, #[.pointer (some ⟨br, 0, none⟩)], #[], rfl, by simpa [AV.ofValue, AV.ofOne] using this⟩
  · exact (SubN.refl _).tail _
  · rintro r σ' ⟨rfl, rfl⟩
    (try simp -dsimp -implicitDefEqProofs only [EV1, EV2, EV3, EV4, Nat.reduceEqDiff, ↓reduceIte, List.contains_cons, List.contains_nil, Nat.reduceBEq, Bool.or_false, Bool.false_or, Bool.or_true, Bool.true_or, Bool.not_true, Bool.not_false, reduceCtorEq, List.map_cons, List.map_nil, BEq.rfl, retQ_ret, retQ_normal, RX_nil, RX_tmp, RX_cell, one_nil, one_one, one_two, argEnv_nil, argEnv_cons, Nat.reduceAdd, List.length_cons, List.length_nil, List.cons_append, List.nil_append, List.drop_succ_cons, List.drop_zero, List.drop_nil, List.take_succ_cons, List.take_zero, List.headD_cons, Nat.reduceLeDiff, true_and, and_true, eq_self, Nat.le_refl, Nat.reduceLT, List.getD_cons_zero, List.getD_cons_succ, Int.reduceToNat, UInt8.reduceToNat, Nat.reduceMul, Nat.reduceAdd, Nat.reduceSub, Int.reduceLT, Int.reduceLE, Int.reduceAdd, Int.reduceSub, Int.reduceMul, Int.reduceEq, Int.reduceNe, Int.reduceNeg, Int.reduceTDiv, Int.reduceTMod, decide_true, decide_false, Nat.zero_add, Nat.mul_one, Int.cast_ofNat_Int, Int.toNat_zero, Bool.true_eq_false, Bool.false_eq_true, not_true_eq_false, not_false_eq_true, wrap_i64, ne_eq, Option.map_some, Bool.true_and, Bool.and_true, Bool.false_and, Bool.and_false])
    exact ⟨_, [], AVle.rfl' _, SubN.nil _, rfl, rfl⟩

def quoteS (s : List UInt8) : List UInt8 := 34 :: (escS s ++ [34])

theorem f18 (s : List UInt8) (hs : s.length < 1000000) : Pure G Tryz.prog 18 [.str s] (.str (quoteS s)) := by
  refine Pure.w c18 fun R hR => ?_
  unfold s18 r18
  (try simp -dsimp -implicitDefEqProofs only [EV1, EV2, EV3, EV4, Nat.reduceEqDiff, ↓reduceIte, List.contains_cons, List.contains_nil, Nat.reduceBEq, Bool.or_false, Bool.false_or, Bool.or_true, Bool.true_or, Bool.not_true, Bool.not_false, reduceCtorEq, List.map_cons, List.map_nil, BEq.rfl, retQ_ret, retQ_normal, RX_nil, RX_tmp, RX_cell, one_nil, one_one, one_two, argEnv_nil, argEnv_cons, Nat.reduceAdd, List.length_cons, List.length_nil, List.cons_append, List.nil_append, List.drop_succ_cons, List.drop_zero, List.drop_nil, List.take_succ_cons, List.take_zero, List.headD_cons, Nat.reduceLeDiff, true_and, and_true, eq_self, Nat.le_refl, Nat.reduceLT, List.getD_cons_zero, List.getD_cons_succ, Int.reduceToNat, UInt8.reduceToNat, Nat.reduceMul, Nat.reduceAdd, Nat.reduceSub, Int.reduceLT, Int.reduceLE, Int.reduceAdd, Int.reduceSub, Int.reduceMul, Int.reduceEq, Int.reduceNe, Int.reduceNeg, Int.reduceTDiv, Int.reduceTMod, decide_true, decide_false, Nat.zero_add, Nat.mul_one, Int.cast_ofNat_Int, Int.toNat_zero, Bool.true_eq_false, Bool.false_eq_true, not_true_eq_false, not_false_eq_true, wrap_i64, ne_eq, Option.map_some, Bool.true_and, Bool.and_true, Bool.false_and, Bool.and_false])
  intro b0 hb0
  refine ⟨oldnew, rfl, by simp [oldnew], by simp [oldnew, splice], ?_⟩
  (try simp -dsimp -implicitDefEqProofs only [EV1, EV2, EV3, EV4, Nat.reduceEqDiff, ↓reduceIte, List.contains_cons, List.contains_nil, Nat.reduceBEq, Bool.or_false, Bool.false_or, Bool.or_true, Bool.true_or, Bool.not_true, Bool.not_false, reduceCtorEq, List.map_cons, List.map_nil, BEq.rfl, retQ_ret, retQ_normal, RX_nil, RX_tmp, RX_cell, one_nil, one_one, one_two, argEnv_nil, argEnv_cons, Nat.reduceAdd, List.length_cons, List.length_nil, List.cons_append, List.nil_append, List.drop_succ_cons, List.drop_zero, List.drop_nil, List.take_succ_cons, List.take_zero, List.headD_cons, Nat.reduceLeDiff, true_and, and_true, eq_self, Nat.le_refl, Nat.reduceLT, List.getD_cons_zero, List.getD_cons_succ, Int.reduceToNat, UInt8.reduceToNat, Nat.reduceMul, Nat.reduceAdd, Nat.reduceSub, Int.reduceLT, Int.reduceLE, Int.reduceAdd, Int.reduceSub, Int.reduceMul, Int.reduceEq, Int.reduceNe, Int.reduceNeg, Int.reduceTDiv, Int.reduceTMod, decide_true, decide_false, Nat.zero_add, Nat.mul_one, Int.cast_ofNat_Int, Int.toNat_zero, Bool.true_eq_false, Bool.false_eq_true, not_true_eq_false, not_false_eq_true, wrap_i64, ne_eq, Option.map_some, Bool.true_and, Bool.and_true, Bool.false_and, Bool.and_false])
  refine CALL_spec [] [] (f35 G).v ⟨.inl (.inr ⟨rfl, rfl⟩), trivial⟩ (SubN.nil _) ?_
  rintro r σ' ⟨b, g, rfl, hg, rfl⟩
  simp only [List.append_nil]
  (try simp -dsimp -implicitDefEqProofs only [EV1, EV2, EV3, EV4, Nat.reduceEqDiff, ↓reduceIte, List.contains_cons, List.contains_nil, Nat.reduceBEq, Bool.or_false, Bool.false_or, Bool.or_true, Bool.true_or, Bool.not_true, Bool.not_false, reduceCtorEq, List.map_cons, List.map_nil, BEq.rfl, retQ_ret, retQ_normal, RX_nil, RX_tmp, RX_cell, one_nil, one_one, one_two, argEnv_nil, argEnv_cons, Nat.reduceAdd, List.length_cons, List.length_nil, List.cons_append, List.nil_append, List.drop_succ_cons, List.drop_zero, List.drop_nil, List.take_succ_cons, List.take_zero, List.headD_cons, Nat.reduceLeDiff, true_and, and_true, eq_self, Nat.le_refl, Nat.reduceLT, List.getD_cons_zero, List.getD_cons_succ, Int.reduceToNat, UInt8.reduceToNat, Nat.reduceMul, Nat.reduceAdd, Nat.reduceSub, Int.reduceLT, Int.reduceLE, Int.reduceAdd, Int.reduceSub, Int.reduceMul, Int.reduceEq, Int.reduceNe, Int.reduceNeg, Int.reduceTDiv, Int.reduceTMod, decide_true, decide_false, Nat.zero_add, Nat.mul_one, Int.cast_ofNat_Int, Int.toNat_zero, Bool.true_eq_false, Bool.false_eq_true, not_true_eq_false, not_false_eq_true, wrap_i64, ne_eq, Option.map_some, Bool.true_and, Bool.and_true, Bool.false_and, Bool.and_false])
  refine CALL_spec (repS b 0 0 (.sc .nilIface) (.own g 9 1 oldnew) :: tokS g 9 4) [] (f36 G b g hg s hs).v (AVleA.rfl' _) (by rw [List.append_nil]; exact SubN.refl _) ?_
  rintro r σ' ⟨rfl, rfl⟩
  have hl := escS_len s
  have hl2 := cntE_le s
  (try simp -dsimp -implicitDefEqProofs only [EV1, EV2, EV3, EV4, Nat.reduceEqDiff, ↓reduceIte, List.contains_cons, List.contains_nil, Nat.reduceBEq, Bool.or_false, Bool.false_or, Bool.or_true, Bool.true_or, Bool.not_true, Bool.not_false, reduceCtorEq, List.map_cons, List.map_nil, BEq.rfl, retQ_ret, retQ_normal, RX_nil, RX_tmp, RX_cell, one_nil, one_one, one_two, argEnv_nil, argEnv_cons, Nat.reduceAdd, List.length_cons, List.length_nil, List.cons_append, List.nil_append, List.drop_succ_cons, List.drop_zero, List.drop_nil, List.take_succ_cons, List.take_zero, List.headD_cons, Nat.reduceLeDiff, true_and, and_true, eq_self, Nat.le_refl, Nat.reduceLT, List.getD_cons_zero, List.getD_cons_succ, Int.reduceToNat, UInt8.reduceToNat, Nat.reduceMul, Nat.reduceAdd, Nat.reduceSub, Int.reduceLT, Int.reduceLE, Int.reduceAdd, Int.reduceSub, Int.reduceMul, Int.reduceEq, Int.reduceNe, Int.reduceNeg, Int.reduceTDiv, Int.reduceTMod, decide_true, decide_false, Nat.zero_add, Nat.mul_one, Int.cast_ofNat_Int, Int.toNat_zero, Bool.true_eq_false, Bool.false_eq_true, not_true_eq_false, not_false_eq_true, wrap_i64, ne_eq, Option.map_some, Bool.true_and, Bool.and_true, Bool.false_and, Bool.and_false])
  refine ⟨by first | omega | (simp only [List.length_cons, List.length_nil]; omega) | (simp; omega), ?_⟩
  (try simp -dsimp -implicitDefEqProofs only [EV1, EV2, EV3, EV4, Nat.reduceEqDiff, ↓reduceIte, List.contains_cons, List.contains_nil, Nat.reduceBEq, Bool.or_false, Bool.false_or, Bool.or_true, Bool.true_or, Bool.not_true, Bool.not_false, reduceCtorEq, List.map_cons, List.map_nil, BEq.rfl, retQ_ret, retQ_normal, RX_nil, RX_tmp, RX_cell, one_nil, one_one, one_two, argEnv_nil, argEnv_cons, Nat.reduceAdd, List.length_cons, List.length_nil, List.cons_append, List.nil_append, List.drop_succ_cons, List.drop_zero, List.drop_nil, List.take_succ_cons, List.take_zero, List.headD_cons, Nat.reduceLeDiff, true_and, and_true, eq_self, Nat.le_refl, Nat.reduceLT, List.getD_cons_zero, List.getD_cons_succ, Int.reduceToNat, UInt8.reduceToNat, Nat.reduceMul, Nat.reduceAdd, Nat.reduceSub, Int.reduceLT, Int.reduceLE, Int.reduceAdd, Int.reduceSub, Int.reduceMul, Int.reduceEq, Int.reduceNe, Int.reduceNeg, Int.reduceTDiv, Int.reduceTMod, decide_true, decide_false, Nat.zero_add, Nat.mul_one, Int.cast_ofNat_Int, Int.toNat_zero, Bool.true_eq_false, Bool.false_eq_true, not_true_eq_false, not_false_eq_true, wrap_i64, ne_eq, Option.map_some, Bool.true_and, Bool.and_true, Bool.false_and, Bool.and_false])
  refine ⟨by first | omega | (simp only [List.length_cons, List.length_nil]; omega) | (simp; omega), ?_⟩
  (try simp -dsimp -implicitDefEqProofs only [EV1, EV2, EV3, EV4, Nat.reduceEqDiff, ↓reduceIte, List.contains_cons, List.contains_nil, Nat.reduceBEq, Bool.or_false, Bool.false_or, Bool.or_true, Bool.true_or, Bool.not_true, Bool.not_false, reduceCtorEq, List.map_cons, List.map_nil, BEq.rfl, retQ_ret, retQ_normal, RX_nil, RX_tmp, RX_cell, one_nil, one_one, one_two, argEnv_nil, argEnv_cons, Nat.reduceAdd, List.length_cons, List.length_nil, List.cons_append, List.nil_append, List.drop_succ_cons, List.drop_zero, List.drop_nil, List.take_succ_cons, List.take_zero, List.headD_cons, Nat.reduceLeDiff, true_and, and_true, eq_self, Nat.le_refl, Nat.reduceLT, List.getD_cons_zero, List.getD_cons_succ, Int.reduceToNat, UInt8.reduceToNat, Nat.reduceMul, Nat.reduceAdd, Nat.reduceSub, Int.reduceLT, Int.reduceLE, Int.reduceAdd, Int.reduceSub, Int.reduceMul, Int.reduceEq, Int.reduceNe, Int.reduceNeg, Int.reduceTDiv, Int.reduceTMod, decide_true, decide_false, Nat.zero_add, Nat.mul_one, Int.cast_ofNat_Int, Int.toNat_zero, Bool.true_eq_false, Bool.false_eq_true, not_true_eq_false, not_false_eq_true, wrap_i64, ne_eq, Option.map_some, Bool.true_and, Bool.and_true, Bool.false_and, Bool.and_false])
  exact RET.eq hR (by simp [quoteS])
end
end Go.Av
