/-
  WHAT IS HANDED, OPENED: any value built of truth values, integers, strings, structs and slices, as abstract cells.
-/
import Derived.Test.YtcecmifknojgeaaGreatDoorXAv25toXAv26
import Derived.Deep.Slices
import Derived.Deep.DeepHandedRow
import Derived.OpenShut
import Derived.LaidMore
import Derived.LaidHandle
import Derived.Lib.LaidU8
section
namespace Go.Av
open Go Go.RowKit
set_option linter.unusedSimpArgs false
set_option linter.unusedVariables false

def ShpF (p : TypeId → List AV → Prop) : List Field → List AV → Prop
  | [], avs => avs = []
  | f :: fs, avs => ∃ a b, avs = a ++ b ∧ p f.type a ∧ ShpF p fs b

def Shp (P : Program) (B : Nat) : Nat → TypeId → List AV → Prop
  | 0, _, _ => False
  | n + 1, t, avs =>
    match P.underlying t with
    | some .bool => ∃ b, avs = [.bool b]
    | some (.int k) => ∃ i, avs = [.int k i]
    | some .string => ∃ s : List UInt8, s.length ≤ B ∧ avs = [.str s]
    | some (.slice e) => ∃ rows, avs = [.lst (P.cellsOf e) rows] ∧ rows.length ≤ B ∧ ∀ r ∈ rows, Shp P B n e r
    | some (.struct fs) => ShpF (Shp P B n) fs.toList avs
    | _ => False

def tiles (P : Program) : List Field → Nat → Option Nat
  | [], o => some o
  | f :: fs, o => if f.offset = o then tiles P fs (o + P.cellsOf f.type) else none

def closedT (P : Program) (S : List TypeId) : Bool := S.all fun t =>
  match P.underlying t with
  | some .bool | some (.int _) | some .string => P.cellsOf t == 1
  | some (.slice e) => S.contains e && P.bytesOf e != 0 && P.cellsOf t == 1
  | some (.struct fs) => (fs.toList.all fun f => S.contains f.type) && tiles P fs.toList 0 == some (P.cellsOf t)
  | _ => false

theorem weightsAll_in {H : Type} {P : Program} {e : TypeId} : ∀ {l : List (DataW H)} {d : DataW H}, d ∈ l → ∀ n ∈ d.weights P e, n ∈ DataW.weightsAll P e l
  | x :: l, d, hd, n, hn => by
    simp only [DataW.weightsAll, List.mem_append]
    rcases List.mem_cons.1 hd with rfl | hd
    · exact Or.inl hn
    · exact Or.inr (weightsAll_in hd n hn)
theorem weightsEach_in {H : Type} {P : Program} : ∀ {ts : List TypeId} {l : List (DataW H)} {i : Nat} {t : TypeId} {d : DataW H}, ts[i]? = some t → l[i]? = some d → ∀ n ∈ d.weights P t, n ∈ DataW.weightsEach P ts l
  | t' :: ts, x :: l, 0, t, d, h1, h2, n, hn => by
    simp only [List.getElem?_cons_zero, Option.some.injEq] at h1 h2
    subst h1 h2
    simp only [DataW.weightsEach, List.mem_append]
    exact .inl hn
  | t' :: ts, x :: l, i + 1, t, d, h1, h2, n, hn => by
    simp only [DataW.weightsEach, List.mem_append]
    exact .inr (weightsEach_in (i := i) (by simpa using h1) (by simpa using h2) n hn)
  | [], _, _, _, _, h1, _, _, _ => by simp at h1
  | _ :: _, [], _, _, _, _, h2, _, _ => by simp at h2

theorem fixed_none {w : World} {a : Addr} {u : Value} (h : w.cell? a = some u) : Fixed [] w a u := ⟨h, by rintro ⟨x, hx, _⟩; cases hx⟩

theorem open_fields {P : Program} {w : World} {p : TypeId → List AV → Prop} {cs : List Value} : ∀ (fl : List Field) (o tot : Nat), tiles P fl o = some tot → tot ≤ cs.length →
    (∀ f ∈ fl, ∃ avs, p f.type avs ∧ RepL [] w avs ((cs.drop f.offset).take (P.cellsOf f.type)) ∧ ∀ v ∈ (cs.drop f.offset).take (P.cellsOf f.type), v.oneCell' = true) →
    o ≤ tot ∧ ∃ avs, ShpF p fl avs ∧ RepL [] w avs ((cs.drop o).take (tot - o)) ∧ ∀ v ∈ (cs.drop o).take (tot - o), v.oneCell' = true
  | [], o, tot, ht, _, _ => by
    simp only [tiles, Option.some.injEq] at ht
    subst ht
    exact ⟨Nat.le_refl _, [], rfl, by simp [RepL], by simp⟩
  | f :: fl, o, tot, ht, hl, h => by
    simp only [tiles] at ht
    split at ht
    · rename_i ho
      obtain ⟨h1, avs2, s2, r2, o2⟩ := open_fields fl _ _ ht hl fun g hg => h g (List.mem_cons_of_mem _ hg)
      obtain ⟨avs1, s1, r1, o1⟩ := h f (List.mem_cons_self ..)
      rw [ho] at r1 o1
      have e : (cs.drop o).take (tot - o) = (cs.drop o).take (P.cellsOf f.type) ++ (cs.drop (o + P.cellsOf f.type)).take (tot - (o + P.cellsOf f.type)) := by
        rw [← List.drop_drop, show tot - o = P.cellsOf f.type + (tot - (o + P.cellsOf f.type)) by omega, List.take_add]
      refine ⟨by omega, avs1 ++ avs2, ⟨avs1, avs2, rfl, s1, s2⟩, by rw [e]; exact RepL.append r1 r2, ?_⟩
      intro v hv
      rw [e] at hv
      rcases List.mem_append.1 hv with hv | hv
      · exact o1 v hv
      · exact o2 v hv
    · cases ht

theorem cells_get {w : World} {base : Nat} {a : Addr} {n : Nat} {cs : List Value} (h : w.cells? base a n = some cs) : cs.length = n ∧ ∀ j, (hj : j < cs.length) → w.cell? (a.add j) = some cs[j] := by
  obtain ⟨h1, h2, h3⟩ := World.cells?_some h
  refine ⟨h2, fun j hj => ?_⟩
  have := h3 j (by omega)
  rw [this, List.getElem?_eq_getElem hj]

theorem open_any {H : Type} {enc : TypeId × Value → H} {P : Program} {w : World} {S : List TypeId} (hS : closedT P S = true) : ∀ (fuel : Nat) (t : TypeId) (cs : List Value) (x : DataW H × List MemPlace), t ∈ S →
    DataW.trod enc P w 0 (fun _ => true) true fuel t cs = some x → (∀ n ∈ x.1.weights P t, n ≤ reachBytes) → cs.length = P.cellsOf t ∧ ∃ avs, Shp P reachBytes fuel t avs ∧ RepL [] w avs cs ∧ ∀ v ∈ cs, v.oneCell' = true
  | 0, t, cs, x, _, h, _ => by simp [DataW.trod] at h
  | fuel + 1, t, cs, x, ht, h, hw => by
    have hc := List.all_eq_true.1 hS t ht
    simp only [Shp]
    split at hc
    · rename_i hu
      have hu : P.underlying t = some .bool := hu
      have : ∃ b, cs = [.bool b] := by
        unfold DataW.trod at h
        rw [hu] at h
        split at h <;> simp_all
      obtain ⟨b, rfl⟩ := this
      exact ⟨by simpa using (beq_iff_eq.1 hc).symm, [.bool b], ⟨b, rfl⟩, by simp only [RepL, Rep]; exact ⟨_, _, rfl, rfl, rfl⟩, by simp [Value.oneCell']⟩
    · rename_i k hu
      obtain ⟨n, rfl, _, _⟩ := DataW.trod_int hu h
      exact ⟨by simpa using (beq_iff_eq.1 hc).symm, [.int k n], ⟨n, rfl⟩, by simp only [RepL, Rep]; exact ⟨_, _, rfl, rfl, rfl⟩, by simp [Value.oneCell']⟩
    · rename_i hu
      obtain ⟨s, rfl, rfl, _⟩ := DataW.trod_string hu h
      refine ⟨by simpa using (beq_iff_eq.1 hc).symm, [.str s.data.toList], ⟨s.data.toList, hw _ (by simp [DataW.weights]), rfl⟩, by simp only [RepL, Rep]; exact ⟨_, _, rfl, by simp, rfl⟩, by simp [Value.oneCell']⟩
    · rename_i e hu
      simp only [Bool.and_eq_true, bne_iff_ne, ne_eq, beq_iff_eq] at hc
      obtain ⟨⟨he, hb0⟩, h1c⟩ := hc
      have he : e ∈ S := by simpa using he
      rcases DataW.trod_slice hu h with ⟨rfl, _⟩ | ⟨a, len, cap, elems, rest, n, hn, rfl, rfl, hb, hl, hm, hel, hx, _, _⟩
      · exact ⟨by simpa using h1c.symm, [.lst (P.cellsOf e) []], ⟨[], rfl, Nat.zero_le _, fun r hr => by cases hr⟩, by simp only [RepL, Rep]; exact ⟨_, _, rfl, .inl ⟨rfl, trivial⟩, rfl⟩, by simp [Value.oneCell']⟩
      · obtain rfl : n = fuel := by omega
        simp only [DataW.weights, hu, List.length_map] at hw
        have hw0 := hw _ (List.mem_cons_self ..)
        have hbig : len ≤ reachBytes := by
          have h2 : elems.length + rest.length ≤ (elems.length + rest.length) * P.bytesOf e := Nat.le_mul_of_pos_right _ (Nat.pos_of_ne_zero hb0)
          omega
        have key : ∀ i, i < len → ∃ r : List AV, Shp P reachBytes n e r ∧ r.length = P.cellsOf e ∧ RepAt [] w a (i * P.cellsOf e) r := by
          intro i hi
          have hxi := hx i hi
          have hie : i < elems.length := by omega
          rw [List.getElem?_eq_getElem hie] at hxi
          obtain ⟨cs', k1, k2⟩ := Option.bind_eq_some_iff.1 hxi
          obtain ⟨q1, avs, q2, q3, q4⟩ := open_any hS n e cs' _ he k2 fun q hq => hw q (List.mem_cons_of_mem _ (List.mem_append_left _ (weightsAll_in (d := (elems[i]).1) (List.mem_map.2 ⟨_, List.getElem_mem hie, rfl⟩) _ hq)))
          obtain ⟨g1, g2⟩ := cells_get k1
          have hal := q3.length
          refine ⟨avs, q2, by omega, RepAt.of_get fun j hj => ?_⟩
          have hj2 : j < cs'.length := by omega
          refine ⟨cs'[j], fixed_none ?_, q4 _ (List.getElem_mem hj2), q3.get j hj hj2⟩
          rw [← add_add]
          exact g2 j hj2
        obtain ⟨F, hF⟩ := Go.Deep.choose_lt key
        have hlen : ((List.range len).map F).length = len := by simp
        refine ⟨by simpa using h1c.symm, [.lst (P.cellsOf e) ((List.range len).map F)], ⟨_, rfl, by rw [hlen]; exact hbig, ?_⟩, ?_, by simp [Value.oneCell']⟩
        · intro r hr
          obtain ⟨i, hi, rfl⟩ := List.mem_map.1 hr
          exact (hF i (List.mem_range.1 hi)).1
        · simp only [RepL]
          refine ⟨_, _, rfl, ?_, rfl⟩
          simp only [Rep]
          right
          refine ⟨a, cap, by rw [hlen], by rw [hlen]; exact hl, hm, RepRows.of_get fun j hj => ?_⟩
          rw [hlen] at hj
          simp only [List.getElem_map, List.getElem_range, Nat.zero_add]
          exact ⟨(hF j hj).2.1, (hF j hj).2.2⟩
    · rename_i fs hu
      simp only [Bool.and_eq_true, beq_iff_eq, List.all_eq_true] at hc
      obtain ⟨hc1, hc2⟩ := hc
      obtain ⟨xs, n, hn, rfl, hl, hxl, hxs⟩ := DataW.trod_struct hu h
      obtain rfl : n = fuel := by omega
      simp only [DataW.weights, hu] at hw
      obtain ⟨_, avs, s1, r1, o1⟩ := open_fields (w := w) (p := Shp P reachBytes n) (cs := cs) fs.toList 0 _ hc2 (by omega) fun f hf => by
        obtain ⟨i, hi, rfl⟩ := List.getElem_of_mem hf
        have hi' : i < fs.size := by simpa using hi
        have hfi : fs[i]? = some fs[i] := Array.getElem?_eq_getElem hi'
        have hx := hxs i fs[i] hfi
        have hix : i < xs.length := by omega
        rw [List.getElem?_eq_getElem hix] at hx
        have hT : fs[i].type ∈ S := by simpa using hc1 fs[i] (by simp)
        obtain ⟨g1, avs, g2, g3, g4⟩ := open_any hS n fs[i].type _ _ hT hx (fun q hq => hw q (weightsEach_in (i := i) (t := fs[i].type) (d := (xs[i]).1) (by simp [hi']) (by simp [hix]) q hq))
        exact ⟨avs, by simpa using g2, by simpa using g3, by simpa using g4⟩
      rw [Nat.sub_zero, List.drop_zero, ← hl, List.take_length] at r1 o1
      exact ⟨hl, avs, s1, r1, o1⟩
    · cases hc

theorem open_struct {H : Type} {enc : TypeId × Value → H} {P : Program} {w : World} {S : List TypeId} (hS : closedT P S = true) {t : TypeId} (ht : t ∈ S) (h1 : P.cellsOf t ≠ 1) {v : Value} {d : DataW H} {ps : List MemPlace}
    (hd : DataW.Trod enc P w 0 (fun _ => true) true t v d ps) (hw : ∀ n ∈ d.weights P t, n ≤ reachBytes) : ∃ fuel avs, Shp P reachBytes fuel t avs ∧ Rep [] w (.agg avs) v := by
  obtain ⟨fuel, hf⟩ := hd
  obtain ⟨hl, avs, s, r, o⟩ := open_any hS fuel t _ _ ht hf hw
  refine ⟨fuel, avs, s, ?_⟩
  cases v with
  | agg vs => simp only [Rep]; exact ⟨vs, rfl, o, r⟩
  | _ => simp [Value.cells] at hl; omega
end Go.Av
end

section
namespace Go.Av
open Go Go.RowKit
set_option linter.unusedSimpArgs false
set_option linter.unusedVariables false

def allSome {α β : Type} (f : α → Option β) : List α → Option (List β)
  | [] => some []
  | x :: xs => match f x, allSome f xs with
    | some y, some ys => some (y :: ys)
    | _, _ => none
theorem allSome_get {α β : Type} {f : α → Option β} : ∀ {xs : List α} {ys : List β}, allSome f xs = some ys → ys.length = xs.length ∧ ∀ (i : Nat) (x : α), xs[i]? = some x → ∃ y, ys[i]? = some y ∧ f x = some y
  | [], ys, h => by simp only [allSome, Option.some.injEq] at h; subst h; exact ⟨rfl, fun i x hx => by simp at hx⟩
  | x :: xs, ys, h => by
    simp only [allSome] at h
    split at h
    · rename_i y ys' h1 h2
      simp only [Option.some.injEq] at h
      subst h
      obtain ⟨l, g⟩ := allSome_get h2
      refine ⟨by simp [l], fun i z hz => ?_⟩
      cases i with
      | zero => simp only [List.getElem?_cons_zero, Option.some.injEq] at hz; subst hz; exact ⟨y, rfl, h1⟩
      | succ i => simpa using g i z (by simpa using hz)
    · cases h

def avD (P : Program) : Nat → TypeId → DataW Unit → Option (List AV)
  | 0, _, _ => none
  | n + 1, t, d =>
    match P.underlying t, d with
    | some .bool, .lit (.bool b) => some [.bool b]
    | some (.int k), .lit (.int k' z) => if k = k' then some [.int k z] else none
    | some .string, .lit (.string s) => some [.str s]
    | some (.slice _), .nil => some [.nil]
    | some (.slice e), .slice ds _ => (allSome (avD P n e) ds).map fun rows => [.lst (P.cellsOf e) rows]
    | some (.array m e), .agg ds => if P.cellsOf t = m * P.cellsOf e then (allSome (avD P n e) ds).map List.flatten else none
    | _, _ => none

def Holds1 (w : World) (avs : List AV) (cs : List Value) : Prop := RepL [] w avs cs ∧ ∀ v ∈ cs, v.oneCell' = true

theorem chunks {w : World} {sz : Nat} : ∀ (rows : List (List AV)) (cs : List Value), cs.length = rows.length * sz → (∀ (i : Nat) (r : List AV), rows[i]? = some r → Holds1 w r ((cs.drop (i * sz)).take sz)) → Holds1 w rows.flatten cs
  | [], cs, hl, _ => by
    have : cs = [] := List.eq_nil_of_length_eq_zero (by simpa using hl)
    subst this
    exact ⟨by simp [RepL], by simp⟩
  | r :: rows, cs, hl, h => by
    have h0 := h 0 r rfl
    simp only [Nat.zero_mul, List.drop_zero] at h0
    have hl2 : cs.length = rows.length * sz + sz := by rw [hl, List.length_cons, Nat.add_mul]; omega
    have ih := chunks (sz := sz) rows (cs.drop sz) (by rw [List.length_drop, hl2]; omega) fun i q hq => by
      have := h (i + 1) q (by simpa using hq)
      rw [List.drop_drop, show sz + i * sz = (i + 1) * sz by rw [Nat.add_mul]; omega]
      exact this
    refine ⟨?_, ?_⟩
    · rw [List.flatten_cons, ← List.take_append_drop sz cs]
      exact RepL.append h0.1 ih.1
    · intro v hv
      rw [← List.take_append_drop sz cs] at hv
      rcases List.mem_append.1 hv with hv | hv
      · exact h0.2 v hv
      · exact ih.2 v hv

theorem avD_ok {enc : TypeId × Value → Unit} {P : Program} {w : World} {sp : Nat → Bool} {held : Bool} : ∀ (n : Nat) (t : TypeId) (d : DataW Unit) (avs : List AV), avD P n t d = some avs → ∀ (fuel : Nat) (cs : List Value) (ps : List MemPlace),
    DataW.trod enc P w 0 sp held fuel t cs = some (d, ps) → Holds1 w avs cs
  | 0, t, d, avs, h, _, _, _, _ => by simp [avD] at h
  | n + 1, t, d, avs, h, fuel, cs, ps, ht => by
    simp only [avD] at h
    split at h
    · rename_i b hu
      have : ∃ b', cs = [.bool b'] ∧ b' = b := by
        cases fuel with
        | zero => simp [DataW.trod] at ht
        | succ m =>
          unfold DataW.trod at ht
          rw [hu] at ht
          split at ht <;> simp_all
      obtain ⟨_, rfl, rfl⟩ := this
      simp only [Option.some.injEq] at h
      subst h
      exact ⟨by simp only [RepL, Rep]; exact ⟨_, _, rfl, rfl, rfl⟩, by simp [Value.oneCell']⟩
    · rename_i k k' z hu
      split at h
      · rename_i hk
        subst hk
        simp only [Option.some.injEq] at h
        subst h
        obtain ⟨z', rfl, hx, _⟩ := DataW.trod_int hu ht
        simp only [Prod.mk.injEq, DataW.lit.injEq, Lit.int.injEq, true_and] at hx
        rw [hx.1]
        exact ⟨by simp only [RepL, Rep]; exact ⟨_, _, rfl, rfl, rfl⟩, by simp [Value.oneCell']⟩
      · cases h
    · rename_i s hu
      simp only [Option.some.injEq] at h
      subst h
      obtain ⟨s', rfl, hx, _⟩ := DataW.trod_string hu ht
      simp only [Prod.mk.injEq, DataW.lit.injEq, Lit.string.injEq] at hx
      rw [hx.1]
      exact ⟨by simp only [RepL, Rep]; exact ⟨_, _, rfl, by simp, rfl⟩, by simp [Value.oneCell']⟩
    · rename_i e hu
      simp only [Option.some.injEq] at h
      subst h
      rcases DataW.trod_slice hu ht with ⟨rfl, _⟩ | ⟨a, len, cap, elems, rest, m, hn, rfl, hx, hb, hl, hm, hel, hxx, _, _⟩
      · exact ⟨by simp only [RepL, Rep]; exact ⟨_, _, rfl, rfl, rfl⟩, by simp [Value.oneCell']⟩
      · simp at hx
    · rename_i e ds rest0 hu
      obtain ⟨rows, hr, rfl⟩ := Option.map_eq_some_iff.1 h
      obtain ⟨hrl, hrg⟩ := allSome_get hr
      rcases DataW.trod_slice hu ht with ⟨rfl, hx⟩ | ⟨a, len, cap, elems, rest, m, hn, rfl, hx, hb, hl, hm, hel, hxx, _, _⟩
      · simp at hx
      · simp only [Prod.mk.injEq, DataW.slice.injEq] at hx
        obtain ⟨⟨hds, _⟩, _⟩ := hx
        have hlen : rows.length = len := by rw [hrl, hds, List.length_map, hel]
        refine ⟨?_, by simp [Value.oneCell']⟩
        simp only [RepL]
        refine ⟨_, _, rfl, ?_, rfl⟩
        simp only [Rep]
        right
        refine ⟨a, cap, by rw [hlen], by rw [hlen]; exact hl, hm, RepRows.of_get fun j hj => ?_⟩
        have hj1 : j < elems.length := by omega
        have h1 := hxx j (by omega)
        rw [List.getElem?_eq_getElem hj1] at h1
        obtain ⟨cs', k1, k2⟩ := Option.bind_eq_some_iff.1 h1
        obtain ⟨y, hy1, hy2⟩ := hrg j (elems[j]).1 (by rw [hds, List.getElem?_map, List.getElem?_eq_getElem hj1]; rfl)
        rw [List.getElem?_eq_getElem hj, Option.some.injEq] at hy1
        rw [hy1]
        obtain ⟨q3, q4⟩ := avD_ok n e _ y hy2 m cs' (elems[j]).2 k2
        obtain ⟨g1, g2⟩ := cells_get k1
        have hal := q3.length
        rw [Nat.zero_add]
        refine ⟨by omega, RepAt.of_get fun i hi => ?_⟩
        have hi2 : i < cs'.length := by omega
        refine ⟨cs'[i], fixed_none ?_, q4 _ (List.getElem_mem hi2), q3.get i hi hi2⟩
        rw [← add_add]
        exact g2 i hi2
    · rename_i m e ds hu
      split at h
      rotate_left
      · cases h
      rename_i hct
      obtain ⟨rows, hr, rfl⟩ := Option.map_eq_some_iff.1 h
      obtain ⟨hrl, hrg⟩ := allSome_get hr
      obtain ⟨xs, m', hn, hx, hl, hxl, hxs⟩ := DataW.trod_array hu ht
      simp only [Prod.mk.injEq, DataW.agg.injEq] at hx
      obtain ⟨hds, _⟩ := hx
      have hlen : rows.length = m := by rw [hrl, hds, List.length_map, hxl]
      have hch : ∀ (i : Nat) (r : List AV), rows[i]? = some r → Holds1 w r ((cs.drop (i * P.cellsOf e)).take (P.cellsOf e)) := by
        intro i r hir
        have hi : i < rows.length := (List.getElem?_eq_some_iff.1 hir).1
        have hj1 : i < xs.length := by omega
        have h1 := hxs i (by omega)
        rw [List.getElem?_eq_getElem hj1] at h1
        obtain ⟨y, hy1, hy2⟩ := hrg i (xs[i]).1 (by rw [hds, List.getElem?_map, List.getElem?_eq_getElem hj1]; rfl)
        rw [hir, Option.some.injEq] at hy1
        subst hy1
        exact avD_ok n e _ _ hy2 m' _ (xs[i]).2 h1
      exact chunks rows cs (by rw [hl, hct, hlen]) hch
    · cases h

theorem repAt_var {P : Program} {w : World} {nm : String} {g : Nat} {cs : Array Value} {avs : List AV} (hg : P.globalNamed nm = some g) (hv : w.var? P nm = some cs) (h : Holds1 w avs cs.toList) : RepAt [] w ⟨g, 0, none⟩ 0 avs := by
  refine RepAt.of_get fun j hj => ?_
  have hl := h.1.length
  have hj2 : j < cs.toList.length := by omega
  refine ⟨cs.toList[j], fixed_none ?_, h.2 _ (List.getElem_mem hj2), h.1.get j hj hj2⟩
  rw [Nat.zero_add, add_lit, Nat.zero_add]
  have := World.var?_cell hg hv j
  rw [this]
  simp

def globOf (l : List (Nat × List AV)) : Glob where
  tab g := (l.find? fun p => p.1 == g).map (·.2)
  holds σ w := ∀ p ∈ l, RepAt σ w ⟨p.1, 0, none⟩ 0 p.2
  ev he h := fun p hp => RepAt.ev he _ _ _ (h p hp)
  tabs := by
    intro σ w g cs h ht
    obtain ⟨p, hp, rfl⟩ := Option.map_eq_some_iff.1 ht
    have h1 := List.find?_some hp
    have h2 := List.mem_of_find?_eq_some hp
    have e : p.1 = g := by simpa using h1
    rw [← e]
    exact h p h2
end Go.Av
end
