/-
  THE LEXER, 9: a Builder's String.
-/
import Derived.Test.YtmghejoigggooaaGreatDoorXTok8
import Derived.RegionTactic
import Derived.RegionCalls
namespace Go.Av
open Go Go.RowKit Go.Proofs
set_option linter.unusedSimpArgs false

set_option maxHeartbeats 2000000 in
set_option maxRecDepth 100000 in
theorem str_row (b g cap : Nat) (p : Value) (cur : Array Value) (l : List UInt8) (w : World) (h0 : l ≠ []) (hbk : w.heap[b]? = some (.cells #[p, .slice (some ⟨g, 0, none⟩) l.length cap] 82 (0, 0)))
    (hg : w.heap[g]? = some (.cells cur 5 (0, 0))) (hnc : l.length ≤ cap) (hcm : cap ≤ maxLen) (hcs : cur.size = cap * 1) (hrow : ∀ (j : Nat) x, l[j]? = some x → w.cell? ⟨g, j, none⟩ = some (.int .u8 x.toNat)) :
    Calls Tryz.prog 54 #[.pointer (some ⟨b, 0, none⟩)] w fun e w' => e = .returned (.string ⟨l.toArray⟩) ∧ w' = w.drew.freeze ⟨g, 0, none⟩ l.length := by
  have hl0 : l.length ≠ 0 := by simpa using h0
  have c1 : w.drew.cell? ⟨b, 1, none⟩ = some (.slice (some ⟨g, 0, none⟩) l.length cap) := by
    have : w.drew.heap[b]? = some (.cells #[p, .slice (some ⟨g, 0, none⟩) l.length cap] 82 (0, 0)) := hbk
    rw [Lib.cell_of_heap this]; rfl
  have hSD : (Builtin.unsafeSliceData_ #[31] 101 #[.slice (some ⟨g, 0, none⟩) l.length cap]).run Tryz.prog w.drew = .ok (.pointer (some ⟨g, 0, none⟩)) w.drew :=
    Lib.run_unsafeSliceData_row _ _ _ _ _ _ (by omega)
  have hUS : (Builtin.unsafeString_ #[101, 3] 9 #[.pointer (some ⟨g, 0, none⟩), .int .i64 l.length]).run Tryz.prog w.drew = .ok (.string ⟨l.toArray⟩) (w.drew.freeze ⟨g, 0, none⟩ l.length) := by
    refine Lib.run_unsafeString_row w.drew 101 3 9 5 Tryz.underlying101 (by kernel_rfl) g cur.size (by have hg' : w.drew.heap[g]? = some (.cells cur 5 (0, 0)) := hg; simp [World.shape?, hg']) l h0 (by omega) (by unfold maxLen at hcm; omega) ?_
    intro j x hx
    rw [add_lit, Nat.zero_add]; exact hrow j x hx
  clear hrow hg hbk hnc hcm hcs
  go_enter Tryz.func54, Tryz.ntmps54
  go_wp2
  go_region
  all_goals (go_wp2; go_ret; exact ⟨rfl, rfl⟩)

theorem Ev.freeze {σ : Store} {w : World} (b n : Nat) (hb : b ∈ σ.keys) (cs : Array Value) (e : TypeId) (fz : Nat × Nat) (hc : w.heap[b]? = some (.cells cs e fz)) : Ev σ w [] (w.freeze ⟨b, 0, none⟩ n) := by
  have hcell : ∀ a, (w.freeze ⟨b, 0, none⟩ n).cell? a = w.cell? a := by
    intro a
    unfold World.freeze
    split
    · rfl
    · simp only [World.cell?, Array.getElem?_modify]
      by_cases h : b = a.block
      · rw [if_pos h, ← h, hc]; rfl
      · rw [if_neg h]
  have hshape : ∀ k, (w.freeze ⟨b, 0, none⟩ n).shape? k = w.shape? k := by
    intro k
    unfold World.freeze
    split
    · rfl
    · simp only [World.shape?, Array.getElem?_modify]
      by_cases h : b = k
      · rw [if_pos h, ← h, hc]; rfl
      · rw [if_neg h]
  refine ⟨?_, ?_, ?_, ?_, ?_, ?_, ?_⟩
  · unfold World.freeze; split <;> rfl
  · unfold World.freeze; split <;> rfl
  · unfold World.freeze; split <;> rfl
  · unfold World.freeze; split <;> simp
  · intro k hk hn
    refine ⟨?_, by simp [Store.keys]⟩
    have hne : ¬ b = k := fun e => hn (e ▸ hb)
    unfold World.freeze
    split
    · rfl
    · simp only [Array.getElem?_modify, if_neg hne]
  · intro k s hs; rw [hshape]; exact hs
  · intro a v hv _
    exact ⟨by rw [hcell]; exact hv, fun m => by obtain ⟨x, hx, _⟩ := m; simp at hx⟩

section
variable (G : Glob)

/-- String. -/
theorem f54 (b : Nat) (p : Option Addr) (g : Option Nat) (t : List UInt8) : FnSpec G Tryz.prog 54 [.sc (.pointer (some ⟨b, 0, none⟩))] (bldS b p g t) fun r σ => r = .str t ∧ σ = [] := by
  refine ⟨⟨_, Tryz.func54, by kernel_rfl, by kernel_rfl⟩, fun ρ w vs hS hA => ?_⟩
  obtain ⟨u, rfl, h1⟩ := vs_one hA
  simp only [Rep] at h1
  subst h1
  obtain ⟨vs, hb1, hb2, hb3⟩ := hS.obj b (.cells 82 [.sc (.pointer p), .own g 5 1 (byteRows t)]) (by simp [bldS])
  obtain ⟨u, v, rfl, h1, h2⟩ := vs_two hb3
  simp only [Rep] at h1
  subst h1
  have low : (Calls Tryz.prog 54 #[.pointer (some ⟨b, 0, none⟩)] w fun e w' => e = .returned (.string ⟨#[]⟩) ∧ Below w.heap.size w w') → t = [] →
      Calls Tryz.prog 54 #[.pointer (some ⟨b, 0, none⟩)] w fun e w' => ∃ v r σ', e = .returned v ∧ (r = .str t ∧ σ' = []) ∧ Sat G (σ' ++ ρ) w' ∧ Ev (bldS b p g t) w σ' w' ∧ Rep (σ' ++ ρ) w' r v := by
    rintro h rfl
    refine h.mono ?_
    rintro e w' ⟨rfl, hB⟩
    refine ⟨_, _, [], rfl, ⟨rfl, rfl⟩, ?_, (Ev.below hB).frame (σf := []) (σr := []) (fun _ h => by simp at h), by simp only [Rep]⟩
    exact Sat.below (by simpa using hS.subN (SubN.nil _)) hB
  cases g with
  | none =>
    simp only [Rep] at h2
    obtain ⟨rfl, h2⟩ := h2
    have ht : t = [] := by simpa [byteRows] using h2
    exact low (Any.Builder_String_nil Tryz.lays169 Tryz.Builder_Extra_169 _ b (.pointer p) w hb1) ht
  | some x =>
    simp only [Rep] at h2
    obtain ⟨cap, rfl, h3, h4, h5, h6⟩ := h2
    obtain ⟨cur, hg1, hg2⟩ := hS.obj x (.tok 5 ((byteRows t).length * 1)) (by simp [bldS, tokS])
    have hsz : cur.size = cap * 1 := by
      have : w.shape? x = some (5, cur.size) := by simp [World.shape?, hg1]
      rw [this] at h5
      simpa using h5
    by_cases ht : t = []
    · subst ht
      simp only [byteRows, List.map_nil, List.length_nil] at hb1
      by_cases hc0 : cap = 0
      · subst hc0
        exact low (Any.Builder_String_noroom Tryz.lays169 Tryz.Builder_Extra_169 _ b x (.pointer p) cur w (Nat.le_refl _) hb1 hg1) rfl
      · exact low (Any.Builder_String_room Tryz.lays169 Tryz.Builder_Extra_169 _ b x cap (.pointer p) w hc0 hb1) rfl
    · rw [byteRows_len] at hb1 h3
      refine (str_row b x cap (.pointer p) cur t w ht hb1 hg1 h3 h4 hsz ?_).mono ?_
      · intro j c hc
        obtain ⟨hj, rfl⟩ := List.getElem?_eq_some_iff.1 hc
        have h7 := h6.get j (by rw [byteRows_len]; exact hj)
        have e : (byteRows t)[j]'(by rw [byteRows_len]; exact hj) = [.int .u8 (t[j]).toNat] := by simp [byteRows]
        rw [e] at h7
        obtain ⟨_, h7⟩ := h7
        simp only [RepAt] at h7
        obtain ⟨⟨u, h8, _, h9⟩, _⟩ := h7
        simp only [Rep] at h9
        subst h9
        have := h8.1
        rw [add_lit] at this
        simpa using this
      · rintro e w' ⟨rfl, rfl⟩
        have hev : Ev (bldS b p (some x) t) w [] (w.drew.freeze ⟨x, 0, none⟩ t.length) :=
          Ev.trans Ev.drew (Ev.freeze x t.length (by simp [bldS, tokS, Store.keys]) cur 5 (0, 0) hg1)
        refine ⟨_, _, [], rfl, ⟨rfl, rfl⟩, ?_, hev, by simp only [Rep]⟩
        exact Sat.step hS hev (by simp [Store.keys]) (by simp [Store.keys]) (by simp)
end
end Go.Av
