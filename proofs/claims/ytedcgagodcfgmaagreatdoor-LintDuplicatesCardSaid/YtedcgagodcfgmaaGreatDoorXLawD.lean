/-
  LintDuplicates: for every act the law returns true, and its argument reads behind the call as it read before. No condition of its own; the row lists tables, tied to the program's text by the given tie.
-/
import Derived.Test.YtedcgagodcfgmaaGreatDoorXL45toXFrA
import Derived.Test.YtedcgagodcfgmaaGreatDoorXL46toXL24
import Derived.Test.YtedcgagodcfgmaaGreatDoorXL44toXL57
namespace Go.Proofs.YtedcgagodcfgmaaGreatDoor.l5
open Go.ChangeShapes Go.WideShapes Go.ChangeAt Go.RowKit
open Go.ChangeMaps (open_string shut_string)

theorem cells41 : Tryz.prog.cellsOf 41 = 7 := by kernel_rfl
abbrev zi : Value := .int .i64 0
abbrev zs : Value := .slice none 0 0
abbrev zt : Value := .string .empty
/-- The act of no content. -/
abbrev zItem : Value := .agg #[zi, zt, zi, zi, zi, zt, zs]
abbrev di {H : Type} : DataW H := .lit (.int .i64 0)
abbrev dt {H : Type} : DataW H := .lit (.string [])
abbrev dItem {H : Type} : DataW H := .agg [di, dt, di, .agg [di, di, dt], .nil]

set_option maxRecDepth 100000 in
theorem reads (os : Os) {H : Type} (enc : TypeId × Value → H) : ∃ places, DataW.whole enc Tryz.prog ((laidWorld os).forCall (fun _ _ => 0) ⟨#[], #[zItem], []⟩).memory Tryz.f5.params.toList Rows.lintDuplicatesSpec.vars false #[zItem].toList 8 = some ([dItem], [], places) :=
  ⟨[], by kernel_rfl⟩

set_option maxRecDepth 100000 in
theorem okIn (os : Os) : Input.okWideB Tryz.checked.prog ((laidWorld os).forCall (fun _ _ => 0) ⟨#[], #[zItem], []⟩) 5 ⟨#[], #[zItem], []⟩ = true := by kernel_rfl
set_option maxRecDepth 100000 in
set_option maxHeartbeats 0 in
theorem closed : joinedFacts Tryz.pinned.checked.prog 5 Tryz.f5 (OpenSpec.ofChange Rows.lintDuplicatesSpec).bare Rows.lintDuplicatesRow = true := by
  unfold joinedFacts
  repeat' with_reducible apply and_mk
  all_goals as_aux_lemma => kernel_rfl
set_option maxRecDepth 100000 in
theorem contract (H : Type) (enc : TypeId × Value → H) (W : World) (args : Array Value) (ds gs : List (DataW H)) (before : List MemPlace)
    (hW : DataW.Whole enc Tryz.prog Tryz.f5.params.toList Rows.lintDuplicatesSpec.vars false W args.toList ds gs before)
    (hwt : (DataW.weightsEach Tryz.prog (Tryz.f5.params.toList ++ (OpenSpec.ofChange Rows.lintDuplicatesSpec).bare.plain.varTypes Tryz.prog) (ds ++ gs)).all (· ≤ reachBytes) = true)
    (hL : laidMetH Tryz.prog Rows.lintDuplicatesRow.laid W) (hsh : W.ShapedOpen Tryz.prog) :
    Calls Tryz.prog 5 args W fun e W' => ∃ v, e = .returned v ∧ Rows.lintDuplicatesSpec.post enc Tryz.prog Tryz.f5 false true false false W args v W' := by
  have hW' := hW
  obtain ⟨p, q, hA0, hV, rfl, hfz, hnd⟩ := hW
  have hA : DataW.TrodAll enc Tryz.prog W 0 (fun _ => true) true Tryz.f5.params.toList args.toList ds p := hA0
  rw [Tryz.params5] at hA
  obtain ⟨v0, d0, rfl, rfl, h0⟩ := trodAll_one hA
  obtain ⟨rfl, rfl⟩ := trodVars_none hV
  have hw0 : ∀ n ∈ DataW.weights Tryz.prog 41 d0, n ≤ reachBytes := fun n hn => by
    have h := List.all_eq_true.1 hwt n (by
      rw [Tryz.params5]
      simp only [List.cons_append, List.nil_append, DataW.weightsEach]
      exact List.mem_append_left _ hn)
    simpa using h
  obtain ⟨fuel, avs, hs, hrep⟩ := Go.Av.open_struct (S := [41, 34, 22, 64, 3, 28, 24, 25, 130, 128, 26, 29, 9, 31, 32]) (by kernel_rfl) (by decide) (by rw [cells41]; decide) h0 hw0
  obtain ⟨x, rfl, hlen, hfit⟩ := Go.Av.open_act fuel avs hs
  have hlt : ∀ x ∈ p, x.block < W.heap.size := fun x hx => by simpa using hW'.lt x (by simpa using hx)
  obtain ⟨m, hG⟩ := holdsA hL hsh
  clear hA0
  refine (Go.Av.calls_of (W := W) (vs := #[v0]) (Go.Av.f5 (Go.Av.GA m) (Go.Av.GA_ok m) (Go.Av.GA_ok2 m) x hlen hfit) hG (by simp only [Go.Av.RepL]; exact ⟨_, _, rfl, hrep, rfl⟩)).mono ?_
  rintro e W' ⟨v, rfl, hr, hB⟩
  simp only [Go.Av.Rep] at hr
  subst hr
  exact ⟨_, rfl, _, _, _, [], _, [], hW', trodAll_mk1 (shut_bool Tryz.underlying4 _), trodAll_mk1 (Below.trod (by kernel_rfl) (by kernel_rfl) (of_decide_eq_true (by kernel_rfl)) h0 hB hlt), rfl, hB.frame _, fun h => by cases h⟩

set_option maxRecDepth 100000 in
theorem lifted (os : Os) (started : os.Started) (H : Type) (enc : TypeId × Value → H) (F : Stop.Interp) :
    ReturnsInHanded {} Tryz.checked os 5 .any ((OpenSpec.ofChange Rows.lintDuplicatesSpec).preRow enc Tryz.prog Tryz.f5 Rows.lintDuplicatesRow.domain false Rows.lintDuplicatesRow.laid) (((OpenSpec.ofChange Rows.lintDuplicatesSpec).at F).post enc Tryz.prog Tryz.f5 false true false false) := by
  obtain ⟨places, hx⟩ := reads os enc
  refine returnsInHanded_of_row (C := Tryz.checked) (s := OpenSpec.ofChange Rows.lintDuplicatesSpec) own started (by kernel_rfl) Tryz.func5
    (witness_row_atRef (enc := enc) (C := Tryz.checked) false (laidWorld os) #[zItem] rfl (varsOk os _) (restOk os _) (okIn os)
      (OpenSpec.preRow_of_cond 8 hx (by kernel_rfl) (fun k hk => by cases hk) (by kernel_rfl) (met os _))) ?_
  intro W _ args ds gs before _ hW _ _ hwt hL hsh _
  exact contract H enc W args ds gs before hW hwt hL hsh

theorem said : Rows.LintDuplicatesSaid :=
  OpenClaim.holds_of_cond 5 Tryz.f5 rfl rfl rfl rfl rfl rfl rfl ⟨rfl, rfl, rfl, rfl, rfl⟩ rfl rfl rfl rfl rfl (by kernel_rfl) Tryz.func5 closed
    (of_decide_eq_true (by kernel_rfl)) (by unfold Func.isWrapper; first | (rw [if_pos (by decide +kernel)]; kernel_rfl) | (rw [if_neg (by decide +kernel)]; exact ⟨rfl, rfl⟩))
    (fun os started H enc _ F => by rw [OpenClaim.pre_eq_preRow]; exact lifted os started H enc F)

theorem plain (f : FuncId) (fn : Func) (hf : Tryz.pinned.checked.prog.funcNamed "pandect/pandectlaw40.LintDuplicates" = some f) (hfn : Tryz.pinned.checked.prog.funcs[f]? = some fn) :
    false = Tryz.pinned.checked.prog.looks [] ∧ ∀ (j : Nat) t, fn.params[j]? = some t → Tryz.pinned.checked.prog.wantsStandIn t = false := by
  obtain rfl : f = 5 := Option.some.inj ((show Tryz.prog.funcNamed "pandect/pandectlaw40.LintDuplicates" = some 5 by kernel_rfl).symm.trans hf) |>.symm
  obtain rfl : fn = Tryz.f5 := (Option.some.inj (Tryz.func5.symm.trans hfn)).symm
  refine ⟨by kernel_rfl, fun j t ht => ?_⟩
  rw [Tryz.params5] at ht
  obtain rfl : t = 41 := by simpa using Array.mem_of_getElem? ht
  exact (show Tryz.prog.wantsStandIn 41 = false by kernel_rfl)

theorem card : Rows.LintDuplicatesCardSaid :=
  Claim7.holds_tied_plain_at .later [] _ _ _ _ said (fun _ h => by cases h) (by kernel_rfl) (fun _ h => by cases h) lintDuplicates_row_tie rfl ⟨rfl, rfl⟩ (by kernel_rfl) rfl plain (by kernel_rfl)
end Go.Proofs.YtedcgagodcfgmaaGreatDoor.l5
