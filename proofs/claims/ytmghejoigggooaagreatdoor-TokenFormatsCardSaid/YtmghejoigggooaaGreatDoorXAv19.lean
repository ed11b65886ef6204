/-
  ABSTRACT VALUES, 19: a contract of the kit's own kind as a contract of the walk; operations that the small language lacks.
-/
import Derived.Test.YtmghejoigggooaaGreatDoorXAv18
import Derived.Lib.Builder
namespace Go.Av
open Go Go.RowKit

section
variable {G : Glob} {P : Program}

theorem Ev.below {w w' : World} (h : Below w.heap.size w w') : Ev [] w [] w' where
  os := h.os
  tape := h.tape
  output := h.output
  size := h.size
  block b hb _ := ⟨h.block b hb, by simp [Store.keys]⟩
  shape b s hs := by
    have hb : b < w.heap.size := by
      unfold World.shape? at hs
      cases hx : w.heap[b]? with
      | none => simp [hx] at hs
      | some o => exact (Array.getElem?_eq_some_iff.1 hx).1
    unfold World.shape? at *
    rw [h.block b hb]
    exact hs
  cell a v hv _ := by
    have hb := lt_of_cell hv
    refine ⟨?_, fun m => by obtain ⟨x, hx, _⟩ := m; simp at hx⟩
    rw [World.cell?_of_block (w := w) (h.block a.block hb)]
    exact hv

theorem Sat.below {ρ : Store} {w w' : World} (hS : Sat G ρ w) (h : Below w.heap.size w w') : Sat G ρ w' := by
  have := Sat.step (σ := []) (σ' := []) (ρ := ρ) (by simpa using hS) (Ev.below h) (by simp [Store.keys]) (by simp [Store.keys]) (by simp)
  simpa using this

/-- A contract under which nothing that lay there turns. -/
theorem Pure.of_calls {k : FuncId} {fn : Func} {args : List AV} {r : AV} (hf : P.funcs[k]? = some fn) (hn : (fn.name == "runtime.NumGoroutine") = false) (hb : fn.body.isNone = false)
    (h : ∀ (τ : Store) (w : World) (vs : Array Value), Sat G τ w → RepL τ w args vs.toList → ∃ v, (∀ τ' w', Rep τ' w' r v) ∧ Calls P k vs w fun e w' => e = .returned v ∧ Below w.heap.size w w') : Pure G P k args r :=
  ⟨⟨fn, hf, hn, hb⟩, fun ρ w vs hS hA => by
    obtain ⟨v, hr, hc⟩ := h _ w vs hS hA
    refine hc.mono ?_
    rintro e w' ⟨rfl, hB⟩
    exact ⟨v, r, [], rfl, ⟨rfl, rfl⟩, by simpa using Sat.below (by simpa using hS) hB, Ev.below hB, hr _ _⟩⟩

theorem vs_two {τ : Store} {w : World} {x y : AV} {vs : Array Value} (h : RepL τ w [x, y] vs.toList) : ∃ u v, vs = #[u, v] ∧ Rep τ w x u ∧ Rep τ w y v := by
  simp only [RepL] at h
  obtain ⟨u, us, h1, h2, v, vs', h3, h4, h5⟩ := h
  subst h5 h3
  exact ⟨u, v, by apply Array.ext'; simpa using h1, h2, h4⟩
theorem vs_one {τ : Store} {w : World} {x : AV} {vs : Array Value} (h : RepL τ w [x] vs.toList) : ∃ u, vs = #[u] ∧ Rep τ w x u := by
  simp only [RepL] at h
  obtain ⟨u, us, h1, h2, h5⟩ := h
  subst h5
  exact ⟨u, by apply Array.ext'; simpa using h1, h2⟩
theorem vs_three {τ : Store} {w : World} {x y z : AV} {vs : Array Value} (h : RepL τ w [x, y, z] vs.toList) : ∃ u v t, vs = #[u, v, t] ∧ Rep τ w x u ∧ Rep τ w y v ∧ Rep τ w z t := by
  simp only [RepL] at h
  obtain ⟨u, us, h1, h2, v, vs', h3, h4, t, ts, h5, h6, h7⟩ := h
  subst h7 h5 h3
  exact ⟨u, v, t, by apply Array.ext'; simpa using h1, h2, h4, h6⟩

/-- An operation that yields one known value and leaves memory as it is. -/
theorem RAW_quiet {op : Op} {env : Env} {σ : Store} {K : AV → Store → Prop} (r : AV)
    (h : ∀ (ρ : Store) (w : World) (a : Act) (o : Oper), o.op = op → Sat G (σ ++ ρ) w → (∀ j, Rep (σ ++ ρ) w (env.get j) (a.tmps.getD j undef)) → ∃ v, (execOp a.eval o).run P w = .ok (.value v) w ∧ Rep (σ ++ ρ) w r v) (hk : K r σ) : RAW G P op env σ K ⟨⟩ := by
  intro ρ w a o ho hS hE
  obtain ⟨v, hr, hv⟩ := h ρ w a o ho hS hE
  exact ⟨v, w, r, σ, hr, hk, hS, Ev.refl σ w, hv⟩

theorem Sat.shape_cells {σ : Store} {w : World} (hS : Sat G σ w) {b : Nat} {e : TypeId} {cs : List AV} (h : σ.get b = some (.cells e cs)) : w.shape? b = some (e, cs.length) := by
  obtain ⟨vs, h1, h2, h3⟩ := hS.obj _ _ (Store.get_mem h)
  have := h3.length
  simp [World.shape?, h1, ← this]

theorem Store.get_app {σ ρ : Store} {b : Nat} {x : AObj} (h : σ.get b = some x) : (σ ++ ρ).get b = some x := by
  induction σ with
  | nil => simp [Store.get] at h
  | cons p σ ih =>
    obtain ⟨k, y⟩ := p
    simp only [List.cons_append, Store.get] at *
    split
    · rename_i hk; rw [if_pos hk] at h; exact h
    · rename_i hk; rw [if_neg hk] at h; exact ih h

/-- A pointer becomes an unsafe.Pointer. -/
theorem RAW_toUnsafe {src dst tt e : TypeId} {i b o : Nat} {cs : List AV} {env : Env} {σ : Store} {K : AV → Store → Prop} (he : env.get i = .sc (.pointer (some ⟨b, o, none⟩)))
    (hs : P.underlying src = some (.pointer tt)) (hd : P.underlying dst = some .unsafePointer) {n : Nat} (ht : (P.info? tt).map (·.size) = some n) (hj : n ≠ 0) (hg : σ.get b = some (.cells e cs)) (hoff : o < cs.length)
    (hk : K (.sc (.pointer (some ⟨b, o, none⟩))) σ) : RAW G P (.convert src dst (.tmp i)) env σ K ⟨⟩ := by
  obtain ⟨ti, ht, hsz⟩ := Option.map_eq_some_iff.1 ht
  refine RAW_quiet _ (fun ρ w a op ho hS hE => ?_) hk
  have h1 := hE i
  rw [he] at h1
  simp only [Rep] at h1
  refine ⟨.pointer (some ⟨b, o, none⟩), ?_, by simp only [Rep]⟩
  have h2 := Lib.run_to_unsafe (P := P) w ⟨b, o, none⟩ hs hd ht (by rw [hsz]; exact hj) (hS.shape_cells (Store.get_app hg)) hoff
  have h3 : a.eval (.tmp i) = .pointer (some ⟨b, o, none⟩) := h1
  simp [execOp, ho, h3, h2]

theorem RAW_fromUnsafe {src dst tt e : TypeId} {i b o : Nat} {cs : List AV} {env : Env} {σ : Store} {K : AV → Store → Prop} (he : env.get i = .sc (.pointer (some ⟨b, o, none⟩)))
    (hs : P.underlying src = some .unsafePointer) (hd : P.underlying dst = some (.pointer tt)) {n : Nat} (ht : (P.info? tt).map (·.size) = some n) (hg : σ.get b = some (.cells e cs)) (hlies : liesAt P P.depth e (cs.length / P.cellsOf e) o tt 1 = true)
    (hk : K (.sc (.pointer (some ⟨b, o, none⟩))) σ) : RAW G P (.convert src dst (.tmp i)) env σ K ⟨⟩ := by
  obtain ⟨ti, ht, hsz⟩ := Option.map_eq_some_iff.1 ht
  refine RAW_quiet _ (fun ρ w a op ho hS hE => ?_) hk
  have h1 := hE i
  rw [he] at h1
  simp only [Rep] at h1
  refine ⟨.pointer (some ⟨b, o, none⟩), ?_, by simp only [Rep]⟩
  have h2 := Lib.run_from_unsafe (P := P) w ⟨b, o, none⟩ hs hd ht (hS.shape_cells (Store.get_app hg)) hlies
  have h3 : a.eval (.tmp i) = .pointer (some ⟨b, o, none⟩) := h1
  simp [execOp, ho, h3, h2]

theorem RAW_neq_ptr {tp te : TypeId} {n : Nat} {i j : Nat} {ad : Addr} {env : Env} {σ : Store} {K : AV → Store → Prop} {u : TypeId} (he : env.get i = .sc (.pointer (some ad))) (he2 : env.get j = .sc (.pointer (some ad)))
    (hp : P.underlying tp = some (.pointer te)) (ht : (P.info? te).map (·.size) = some n) (hk : K (.bool false) σ) : RAW G P (.binOp .neq tp (.tmp i) (.tmp j) u) env σ K ⟨⟩ := by
  obtain ⟨ti, ht, hsz⟩ := Option.map_eq_some_iff.1 ht
  refine RAW_quiet _ (fun ρ w a op ho hS hE => ?_) hk
  have h1 := hE i
  have h1' := hE j
  rw [he] at h1
  rw [he2] at h1'
  simp only [Rep] at h1 h1'
  refine ⟨.bool false, ?_, by simp only [Rep]⟩
  have h2 := Lib.run_neq_ptr_same (P := P) w ad hp ht
  have h3 : a.eval (.tmp i) = .pointer (some ad) := h1
  have h4 : a.eval (.tmp j) = .pointer (some ad) := h1'
  simp [execOp, ho, h3, h4, eqGuard_ptr, h2]
end
end Go.Av
