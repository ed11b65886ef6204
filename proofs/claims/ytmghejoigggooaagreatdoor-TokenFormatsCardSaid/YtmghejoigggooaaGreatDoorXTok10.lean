/-
  THE LEXER, 10: strings.ContainsRune over the two escaped bytes.
-/
import Derived.Test.YtmghejoigggooaaGreatDoorXTok9
import Derived.WalkMore
import Derived.Deep.RegionWith
namespace Go.Av
open Go Go.RowKit Go.Proofs
set_option linter.unusedSimpArgs false

set_option maxHeartbeats 2000000 in
set_option maxRecDepth 1000000 in
theorem rune_far (r : Int) (w : World) (h0 : 128 ≤ r) (h1 : r < 256) :
    Calls Tryz.prog 73 #[.string ⟨⟨[34, 92]⟩⟩, .int .i32 r] w fun e w' => e = .returned (.int .i64 (-1)) ∧ Below w.heap.size w w' := by
  have hv : Lib.validRune r = true := by unfold Lib.validRune; simp; omega
  have g1 : ¬ r < 128 := by omega
  have g2 : ¬ r = 65533 := by omega
  obtain ⟨x, y, hy, hcv⟩ : ∃ x y : UInt8, ¬ ((92 : Int) = y.toNat) ∧ ∀ w, (convert 21 9 (.int .i32 r)).run Tryz.prog w = .ok (.string ⟨⟨[x, y]⟩⟩) w := by
    refine ⟨UInt8.ofNat (0xC0 + r.toNat / 64), UInt8.ofNat (0x80 + r.toNat % 64), ?_, fun w => ?_⟩
    · have : (UInt8.ofNat (0x80 + r.toNat % 64)).toNat = 0x80 + r.toNat % 64 := by simp; omega
      rw [this]; omega
    · have hu : Utf8.valid r = true := by unfold Utf8.valid; simp; omega
      have : Utf8.encode r = ⟨⟨[UInt8.ofNat (0xC0 + r.toNat / 64), UInt8.ofNat (0x80 + r.toNat % 64)]⟩⟩ := by
        unfold Utf8.encode
        simp only [hu, if_true]
        rw [if_neg (by omega), if_pos (by omega)]
      rw [← this]
      simp [convert, run_underlying Tryz.underlying21, run_underlying Tryz.underlying9, Conv.intToString]
  have hy1 : ((92 : Int) == y.toNat) = false := beq_eq_false_iff_ne.2 hy
  have hy2 : ((92 : Int) != y.toNat) = true := by simp [bne, hy1]
  have hy3 : (((⟨⟨[34, 92]⟩⟩ : ByteArray)[1]'(by decide)).toNat : Int) != (((⟨⟨[x, y]⟩⟩ : ByteArray)[1]'(by show 1 < 2; decide)).toNat : Int) := hy2
  clear hy
  have hix : ∀ (c : Int) (w : World), Calls Tryz.prog 26 #[.string ByteArray.empty, .int .u8 c] w fun e w' => e = .returned (.int .i64 (-1)) ∧ w' = w := fun c w => (Tryz.strings_IndexByte _ _ _).mono fun e w' h => h
  go_enter Tryz.func73, Tryz.ntmps73
  go_wp2_with (first | (go_at_call 85; refine (Tryz.utf8_ValidRune r _).mono ?_; rintro e w' ⟨rfl, rfl⟩))
  go_step3
  go_wp2
  go_loopw [9] (fun i wr => i = .int .i64 1 ∧ Below w'.heap.size w' wr) (fun _ _ => 0)
  case atStart => exact ⟨rfl, Below.refl _ _⟩
  case round =>
    obtain ⟨rfl, hB⟩ := hrel
    go_wp2
    go_step3
    go_wp2
    go_region
    go_wp2
    go_region_with (go_at_call 26; refine (hix _ _).mono ?_; rintro e w' ⟨rfl, rfl⟩)
    all_goals go_wp2
    all_goals (simp +zetaDelta only [Exit.inBlock, Exit.noGoto_ret, Exit.then]; exact bodyPost_ret (v := .int .i64 (-1)) (by simp [results, Tryz.results73, go_sem]) rfl ⟨rfl, hB.drew.drew⟩)
end Go.Av
