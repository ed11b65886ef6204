/-
  TokenWhitespace: for every input the law returns true, and its arguments read behind the call as they read before. No condition of its own; the row lists two tables of the library, tied to the program's text by the given tie.
-/
import Derived.Test.YtmghejoigggooaaGreatDoorXFrame
import Derived.Test.YtmghejoigggooaaGreatDoorXTok20
namespace Go.Proofs.YtmghejoigggooaaGreatDoor.l4
open Go.ChangeShapes Go.WideShapes Go.ChangeAt Go.RowKit
open Go.ChangeMaps (open_string shut_string)

theorem reads (os : Os) {H : Type} (enc : TypeId × Value → H) : ∃ places, DataW.whole enc Tryz.prog ((laidWorld os).forCall (fun _ _ => 0) ⟨#[], #[.string .empty, .string .empty, .int .u8 0], []⟩).memory Tryz.f4.params.toList Rows.tokenWhitespaceSpec.vars false #[Value.string .empty, .string .empty, .int .u8 0].toList 8 = some ([.lit (.string []), .lit (.string []), .lit (.int .u8 0)], [], places) :=
  ⟨[], by kernel_rfl⟩

set_option maxRecDepth 100000 in
theorem contract (H : Type) (enc : TypeId × Value → H) (W : World) (base : Nat) (args : Array Value) (ds gs : List (DataW H)) (before : List MemPlace)
    (hval : ∀ (j : Nat) t v, Tryz.f4.params[j]? = some t → args[j]? = some v → Value.okWide Tryz.prog W .any base t v)
    (hW : DataW.Whole enc Tryz.prog Tryz.f4.params.toList Rows.tokenWhitespaceSpec.vars false W args.toList ds gs before) :
    Calls Tryz.prog 4 args W fun e W' => ∃ v, e = .returned v ∧ Rows.tokenWhitespaceSpec.post enc Tryz.prog Tryz.f4 false true false false W args v W' := by
  have hW' := hW
  obtain ⟨p, q, hA0, hV, rfl, hfz, hnd⟩ := hW
  have hA : DataW.TrodAll enc Tryz.prog W 0 (fun _ => true) true Tryz.f4.params.toList args.toList ds p := hA0
  rw [Tryz.params4] at hA hval
  obtain ⟨v0, v1, v2, d0, d1, d2, p0, p1, p2, rfl, rfl, rfl, h0, h1, h2⟩ := trodAll_three hA
  obtain ⟨rfl, rfl⟩ := trodVars_none hV
  obtain ⟨s, rfl, rfl, rfl, ws⟩ := open_string Tryz.underlying9 (hval 0 9 v0 rfl rfl) h0
  obtain ⟨t, rfl, rfl, rfl, wt⟩ := open_string Tryz.underlying9 (hval 1 9 v1 rfl rfl) h1
  obtain ⟨n, rfl, rfl, rfl, wn⟩ := open_int Tryz.underlying5 (hval 2 5 v2 rfl rfl) h2
  clear hA0
  simp only [List.append_nil] at hW'
  obtain ⟨m, rfl, hm⟩ : ∃ m : Nat, n = (m : Int) ∧ m < 256 := by
    have hn : IntKind.u8.min ≤ n ∧ n ≤ IntKind.u8.max := by simpa [Lit.wf, IntKind.wrap] using wn
    have hn : (0 : Int) ≤ n ∧ n ≤ (255 : Int) := hn
    exact ⟨n.toNat, by omega, by omega⟩
  refine (Go.Av.calls_of_pure (W := W) (vs := #[.string s, .string t, .int .u8 m]) (Go.Av.f4 Go.Av.G0 s.data.toList t.data.toList m hm) (by simp only [Go.Av.RepL, Go.Av.Rep]; exact ⟨_, _, rfl, rfl, _, _, rfl, rfl, _, _, rfl, rfl, rfl⟩)).mono ?_
  rintro e W' ⟨v, rfl, hr, hB⟩
  simp only [Go.Av.Rep] at hr
  subst hr
  exact ⟨_, rfl, _, _, _, [], [], [], hW', trodAll_mk1 (shut_bool Tryz.underlying4 _), trodAll_mk3 (shut_string Tryz.underlying9 ws) (shut_string Tryz.underlying9 wt) (shut_int Tryz.underlying5 wn), rfl, hB.frame _, fun h => by cases h⟩

set_option maxRecDepth 100000 in
theorem met (os : Os) : laidMet Tryz.prog Rows.tokenWhitespaceRow.laid ((laidWorld os).forCall (fun _ _ => 0) ⟨#[], #[.string .empty, .string .empty, .int .u8 0], []⟩).memory :=
  laidMet_of_run' 40 (by kernel_rfl) (by kernel_rfl)

set_option maxRecDepth 100000 in
theorem lifted (os : Os) (started : os.Started) (H : Type) (enc : TypeId × Value → H) (F : Stop.Interp) :
    ReturnsInHanded {} Tryz.checked os 4 .any ((OpenSpec.ofChange Rows.tokenWhitespaceSpec).preRow enc Tryz.prog Tryz.f4 Rows.tokenWhitespaceRow.domain false Rows.tokenWhitespaceRow.laid) (((OpenSpec.ofChange Rows.tokenWhitespaceSpec).at F).post enc Tryz.prog Tryz.f4 false true false false) := by
  obtain ⟨places, hx⟩ := reads os enc
  refine returnsInHanded_of_row (C := Tryz.checked) (s := OpenSpec.ofChange Rows.tokenWhitespaceSpec) own started (by kernel_rfl) Tryz.func4
    (witness_row_at (enc := enc) (C := Tryz.checked) false (laidWorld os) #[.string .empty, .string .empty, .int .u8 0] rfl (by kernel_rfl) (by kernel_rfl) (by kernel_rfl)
      (OpenSpec.preRow_of_cond 8 hx (by kernel_rfl) (fun k hk => by cases hk) (by kernel_rfl) (met os))) ?_
  intro W base args ds gs before hval hW _ _ _ _ _ _
  exact contract H enc W base args ds gs before hval hW

theorem said : Rows.TokenWhitespaceSaid :=
  OpenClaim.holds_of_cond 4 Tryz.f4 rfl rfl rfl rfl rfl rfl rfl ⟨rfl, rfl, rfl, rfl, rfl⟩ rfl rfl rfl rfl rfl (by kernel_rfl) Tryz.func4 (by kernel_rfl)
    (of_decide_eq_true (by kernel_rfl)) (by unfold Func.isWrapper; first | (rw [if_pos (by decide +kernel)]; kernel_rfl) | (rw [if_neg (by decide +kernel)]; exact ⟨rfl, rfl⟩))
    (fun os started H enc _ F => by rw [OpenClaim.pre_eq_preRow]; exact lifted os started H enc F)

theorem plain (f : FuncId) (fn : Func) (hf : Tryz.pinned.checked.prog.funcNamed "pandect/pandectlaw16.TokenWhitespace" = some f) (hfn : Tryz.pinned.checked.prog.funcs[f]? = some fn) :
    true = Tryz.pinned.checked.prog.looks [] ∧ ∀ (j : Nat) t, fn.params[j]? = some t → Tryz.pinned.checked.prog.wantsStandIn t = false := by
  obtain rfl : f = 4 := Option.some.inj ((show Tryz.prog.funcNamed "pandect/pandectlaw16.TokenWhitespace" = some 4 by kernel_rfl).symm.trans hf) |>.symm
  obtain rfl : fn = Tryz.f4 := (Option.some.inj (Tryz.func4.symm.trans hfn)).symm
  refine ⟨by kernel_rfl, fun j t ht => ?_⟩
  rw [Tryz.params4] at ht
  have h9 : Tryz.prog.wantsStandIn 9 = false := by kernel_rfl
  have h5 : Tryz.prog.wantsStandIn 5 = false := by kernel_rfl
  have ht : t = 9 ∨ t = 9 ∨ t = 5 := by simpa using Array.mem_of_getElem? ht
  rcases ht with rfl | rfl | rfl
  · exact h9
  · exact h9
  · exact h5

theorem card : Rows.TokenWhitespaceCardSaid :=
  Claim7.holds_tied_plain_at .later [] _ _ _ _ said (fun _ h => by cases h) (by kernel_rfl) (fun _ h => by cases h) tokenWhitespace_row_tie rfl ⟨rfl, rfl⟩ (by kernel_rfl) rfl plain (by kernel_rfl)
end Go.Proofs.YtmghejoigggooaaGreatDoor.l4
