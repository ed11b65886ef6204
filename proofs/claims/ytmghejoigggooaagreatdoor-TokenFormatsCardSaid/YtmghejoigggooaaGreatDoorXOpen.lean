/-
  A SLICE OF TOKENS OPENED: what it reads as, as rows.
-/
import Derived.Test.YtmghejoigggooaaGreatDoorXFrame
import Derived.Test.YtmghejoigggooaaGreatDoorXTokB
import Derived.Deep.Slices
import Derived.Deep.Strs
import Derived.Carry
namespace Go.Av
open Go Go.RowKit Go.Proofs
set_option linter.unusedSimpArgs false
set_option linter.unusedVariables false

theorem cells_three {W : World} {a : Addr} {cs : List Value} (h : W.cells? 0 a 3 = some cs) : ∃ x y z, cs = [x, y, z] ∧ W.cell? (a.add 0) = some x ∧ W.cell? (a.add 1) = some y ∧ W.cell? (a.add 2) = some z := by
  unfold World.cells? at h
  rw [if_pos (Nat.zero_le _), show List.range 3 = [0, 1, 2] from rfl] at h
  simp only [List.mapM_cons, List.mapM_nil, Option.pure_def, Option.bind_eq_bind, Option.bind_eq_some_iff, Option.some.injEq] at h
  obtain ⟨x, hx, ys, ⟨y, hy, zs, ⟨z, hz, ws, hw, hzs⟩, hys⟩, hcs⟩ := h
  subst hw hzs hys hcs
  exact ⟨x, y, z, rfl, hx, hy, hz⟩

theorem repRows_of {τ : Store} {w : World} {a : Addr} {sz : Nat} : ∀ (rows : List (List AV)) (i : Nat), (∀ j r, rows[j]? = some r → r.length = sz ∧ RepAt τ w a ((i + j) * sz) r) → RepRows τ w a sz i rows
  | [], _, _ => by simp only [RepRows]
  | r :: rs, i, h => by
    simp only [RepRows]
    have h0 := h 0 r rfl
    rw [Nat.add_zero] at h0
    refine ⟨h0.1, h0.2, repRows_of rs (i + 1) fun j q hq => ?_⟩
    have := h (j + 1) q (by simpa using hq)
    rw [show i + (j + 1) = i + 1 + j by omega] at this
    exact this

theorem fixed_nil {w : World} {a : Addr} {u : Value} (h : w.cell? a = some u) : Fixed [] w a u := ⟨h, by rintro ⟨x, hx, _⟩; cases hx⟩

theorem weightsAll_of {H : Type} {P : Program} {e : TypeId} : ∀ {l : List (DataW H)} {d : DataW H}, d ∈ l → ∀ n ∈ d.weights P e, n ∈ DataW.weightsAll P e l
  | x :: l, d, hd, n, hn => by
    simp only [DataW.weightsAll, List.mem_append]
    rcases List.mem_cons.1 hd with rfl | hd
    · exact Or.inl hn
    · exact Or.inr (weightsAll_of hd n hn)

set_option maxRecDepth 100000 in
theorem open_toks {H : Type} {enc : TypeId × Value → H} {W : World} {r : Reach} {b0 : Nat} {v : Value} {d : DataW H} {ps : List MemPlace} (hval : Value.okWide Tryz.prog W r b0 23 v)
    (hd : DataW.Trod enc Tryz.prog W 0 (fun _ => true) true 23 v d ps) (hw : ∀ n ∈ DataW.weights Tryz.prog 23 d, n ≤ reachBytes) : ∃ l : List ZTok, l.length < 1000000000000000000 ∧ (∀ t ∈ l, t.text.length < 1000000000000000000) ∧ Rep [] W (.lst 3 (rowsZ l)) v := by
  obtain ⟨a0, len0, cap0, rfl⟩ := Go.WideShapes.okWide_slice Tryz.underlying23 hval
  obtain ⟨fuel, hf⟩ := hd
  have hcell : Tryz.prog.cellsOf 33 = 3 := by kernel_rfl
  have c3 : Tryz.prog.cellsOf 3 = 1 := by kernel_rfl
  have c9 : Tryz.prog.cellsOf 9 = 1 := by kernel_rfl
  rcases Go.Deep.open_slice Tryz.underlying23 hf with ⟨h1, _⟩ | ⟨a, len, cap, m, n, D, Pl, h1, hb, hl, hm, hmm, hxd, hx⟩
  · refine ⟨[], Nat.zero_lt_succ _, fun t ht => (List.not_mem_nil ht).elim, ?_⟩
    simp only [rowsZ, List.map_nil, Rep]
    left
    simp [Value.cells] at h1
    exact ⟨by rw [h1.1, h1.2.1, h1.2.2], trivial⟩
  · simp only [Value.cells] at h1
    have h1 : Value.slice a0 len0 cap0 = .slice (some a) len cap := by simpa using h1
    rw [h1]
    rw [hcell] at hx
    have hd1 : d = .slice ((List.range len).map D) ((List.range (m - len)).map fun j => D (len + j)) := congrArg Prod.fst hxd
    rw [hd1] at hw
    have hb33 : Tryz.prog.bytesOf 33 = 32 := by kernel_rfl
    simp only [DataW.weights, Tryz.underlying23, hb33, List.length_map, List.length_range] at hw
    have hw0 := hw _ (List.mem_cons_self ..)
    unfold reachBytes at hw0
    have key : ∀ i, i < len → ∃ t : ZTok, t.text.length < 1000000000000000000 ∧ RepAt [] W a (i * 3) t.row := by
      intro i hi
      obtain ⟨cs', k1, k2⟩ := hx i (by rw [hmm]; simp; omega)
      obtain ⟨x, y, z, rfl, e1, e2, e3⟩ := cells_three k1
      obtain ⟨y0, y1, y2, n', hy, _, t0, t1, t2⟩ := Go.Deep.trod_struct3 Tryz.underlying33 k2
      simp only [c3, c9, List.drop_zero, List.drop_succ_cons, List.take_succ_cons, List.take_zero] at t0 t1 t2
      obtain ⟨p, hp, _⟩ := DataW.trod_int Tryz.underlying3 t0
      obtain ⟨q, hq, _⟩ := DataW.trod_int Tryz.underlying3 t1
      obtain ⟨s, hs, hy2, ws⟩ := DataW.trod_string Tryz.underlying9 t2
      have hDi : D i = .agg [y0.1, y1.1, y2.1] := congrArg Prod.fst hy
      have hws : s.data.toList.length ≤ reachBytes := by
        refine hw _ (List.mem_cons_of_mem _ (List.mem_append_left _ (weightsAll_of (d := D i) (List.mem_map.2 ⟨i, List.mem_range.2 hi, rfl⟩) _ ?_)))
        rw [hDi, hy2]
        simp only [DataW.weights, Tryz.underlying33, List.map_cons, List.map_nil, DataW.weightsEach, List.mem_append]
        simp
      simp only [List.cons.injEq, and_true] at hp hq hs
      subst hp hq hs
      refine ⟨⟨p, q, s.data.toList⟩, ?_, ?_⟩
      · unfold reachBytes at hws
        show s.data.toList.length < _
        omega
      · rw [Go.Deep.add_add] at e1 e2 e3
        simp only [ZTok.row, RepAt, Rep]
        exact ⟨⟨_, fixed_nil e1, rfl, rfl⟩, ⟨_, fixed_nil e2, rfl, rfl⟩, ⟨_, fixed_nil e3, rfl, rfl⟩, trivial⟩
    obtain ⟨F, hF⟩ := Go.Deep.choose_lt key
    have hlen : ((List.range len).map F).length = len := by simp
    refine ⟨(List.range len).map F, ?_, ?_, ?_⟩
    · rw [hlen]
      omega
    · intro t ht
      obtain ⟨i, hi, rfl⟩ := List.mem_map.1 ht
      exact (hF i (List.mem_range.1 hi)).1
    · simp only [Rep]
      right
      refine ⟨a, cap, by rw [rowsZ_len, hlen], by rw [rowsZ_len, hlen]; exact hl, hm, ?_⟩
      refine repRows_of _ 0 fun j q hq => ?_
      simp only [rowsZ, List.map_map, List.getElem?_map, Option.map_eq_some_iff] at hq
      obtain ⟨i, hi, rfl⟩ := hq
      obtain ⟨hj, rfl⟩ := List.getElem?_eq_some_iff.1 hi
      rw [List.getElem_range, Nat.zero_add]
      exact ⟨rfl, (hF j (by simpa using hj)).2⟩
end Go.Av
