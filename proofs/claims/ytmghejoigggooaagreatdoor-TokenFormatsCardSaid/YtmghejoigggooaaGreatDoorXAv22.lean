/-
  ABSTRACT VALUES, 22: one cell of the store is written.
-/
import Derived.Test.YtmghejoigggooaaGreatDoorXAv21
namespace Go.Av
open Go Go.RowKit

section
variable {G : Glob}

theorem setCell_setRow {w : World} {b o : Nat} {vs : Array Value} {e : TypeId} {fz : Nat × Nat} (hh : w.heap[b]? = some (.cells vs e fz)) (v : Value) : w.setCell ⟨b, o, none⟩ v = w.setRow b (vs.setIfInBounds o v) := by
  unfold World.setCell World.setRow
  congr 1
  apply Array.ext
  · simp
  · intro i h1 h2
    simp only [Array.getElem_modify]
    split
    · rename_i hi
      have hi : b = i := hi
      subst hi
      have : w.heap[b]'(by simpa using h1) = .cells vs e fz := (Array.getElem?_eq_some_iff.1 hh).2
      rw [this]
      rfl
    · rfl

theorem Sat.setCell {σ ρ : Store} {w : World} {b o : Nat} {e : TypeId} {cs : List AV} {x : AV} {v : Value} (hS : Sat G (σ ++ ρ) w) (hg : σ.get b = some (.cells e cs)) (hx : Rep (σ ++ ρ) w x v) (h1 : v.oneCell' = true) (ho : o < cs.length) :
    Ev σ w (σ.set b (.cells e (cs.set o x))) (w.setCell ⟨b, o, none⟩ v) ∧ Sat G (σ.set b (.cells e (cs.set o x)) ++ ρ) (w.setCell ⟨b, o, none⟩ v) := by
  have hm := Store.get_mem hg
  obtain ⟨vs0, hh0, _, hr⟩ := hS.obj b _ (List.mem_append.2 (.inl hm))
  have hl := hr.length
  have hlt : o < vs0.size := by simp at hl; omega
  have r1 : RepL (σ ++ ρ) w [x] [v] := by simp only [RepL]; exact ⟨v, [], rfl, hx, rfl⟩
  obtain ⟨vs, hh, hsz, hev, hS'⟩ := hS.setRow hg r1 (by intro u hu; simp at hu; subst hu; exact h1) (off := o) (by simp; omega)
  rw [hh0] at hh
  cases hh
  have e1 : splice cs o [x] = cs.set o x := by
    rw [splice_eq cs o [x] (by simp; omega), List.set_eq_take_append_cons_drop, if_pos ho]
    simp
  have e2 : (vs0.toList.take o ++ [v] ++ vs0.toList.drop (o + [v].length)).toArray = vs0.setIfInBounds o v := by
    apply Array.ext'
    rw [Array.toList_setIfInBounds, List.set_eq_take_append_cons_drop, if_pos (by simpa using hlt)]
    simp
  rw [e1] at hev hS'
  rw [e2] at hev hS'
  rw [setCell_setRow hh0]
  exact ⟨hev, hS'⟩
end
end Go.Av
