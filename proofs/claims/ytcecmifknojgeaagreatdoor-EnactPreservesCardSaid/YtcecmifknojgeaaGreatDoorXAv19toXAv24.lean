/-
  ABSTRACT VALUES, 19: a contract of the kit's own kind as a contract of the walk; operations that the small language lacks.
-/
import Derived.Test.YtcecmifknojgeaaGreatDoorXAv16toXAv18
import Derived.Lib.Builder
import Derived.Laws.IdiomStrings
import Derived.Laws.CopyRow
import Derived.Laws.MakeOwn
import Derived.Laws.OwnMore
import Derived.Lib.BufferRead
import Derived.MapKept
import Derived.Carry
section
namespace Go.Av
open Go Go.RowKit

section
variable {G : Glob} {P : Program}

theorem Ev.below {w w' : World} (h : Below w.heap.size w w') : Ev [] w [] w' where
  os := h.os
  tape := h.tape
  output := h.output
  size := h.size
  block b hb _ := ⟨h.block b hb, by simp [Store.keys]⟩
  shape b s hs := by
    have hb : b < w.heap.size := by
      unfold World.shape? at hs
      cases hx : w.heap[b]? with
      | none => simp [hx] at hs
      | some o => exact (Array.getElem?_eq_some_iff.1 hx).1
    unfold World.shape? at *
    rw [h.block b hb]
    exact hs
  cell a v hv _ := by
    have hb := lt_of_cell hv
    refine ⟨?_, fun m => by obtain ⟨x, hx, _⟩ := m; simp at hx⟩
    rw [World.cell?_of_block (w := w) (h.block a.block hb)]
    exact hv

theorem Sat.below {ρ : Store} {w w' : World} (hS : Sat G ρ w) (h : Below w.heap.size w w') : Sat G ρ w' := by
  have := Sat.step (σ := []) (σ' := []) (ρ := ρ) (by simpa using hS) (Ev.below h) (by simp [Store.keys]) (by simp [Store.keys]) (by simp)
  simpa using this

theorem Pure.of_calls {k : FuncId} {fn : Func} {args : List AV} {r : AV} (hf : P.funcs[k]? = some fn) (hn : (fn.name == "runtime.NumGoroutine") = false) (hb : fn.body.isNone = false)
    (h : ∀ (τ : Store) (w : World) (vs : Array Value), Sat G τ w → RepL τ w args vs.toList → ∃ v, (∀ τ' w', Rep τ' w' r v) ∧ Calls P k vs w fun e w' => e = .returned v ∧ Below w.heap.size w w') : Pure G P k args r :=
  ⟨⟨fn, hf, hn, hb⟩, fun ρ w vs hS hA => by
    obtain ⟨v, hr, hc⟩ := h _ w vs hS hA
    refine hc.mono ?_
    rintro e w' ⟨rfl, hB⟩
    exact ⟨v, r, [], rfl, ⟨rfl, rfl⟩, by simpa using Sat.below (by simpa using hS) hB, Ev.below hB, hr _ _⟩⟩

theorem vs_two {τ : Store} {w : World} {x y : AV} {vs : Array Value} (h : RepL τ w [x, y] vs.toList) : ∃ u v, vs = #[u, v] ∧ Rep τ w x u ∧ Rep τ w y v := by
  simp only [RepL] at h
  obtain ⟨u, us, h1, h2, v, vs', h3, h4, h5⟩ := h
  subst h5 h3
  exact ⟨u, v, by apply Array.ext'; simpa using h1, h2, h4⟩
theorem RAW_quiet {op : Op} {env : Env} {σ : Store} {K : AV → Store → Prop} (r : AV)
    (h : ∀ (ρ : Store) (w : World) (a : Act) (o : Oper), o.op = op → Sat G (σ ++ ρ) w → (∀ j, Rep (σ ++ ρ) w (env.get j) (a.tmps.getD j undef)) → ∃ v, (execOp a.eval o).run P w = .ok (.value v) w ∧ Rep (σ ++ ρ) w r v) (hk : K r σ) : RAW G P op env σ K ⟨⟩ := by
  intro ρ w a o ho hS hE
  obtain ⟨v, hr, hv⟩ := h ρ w a o ho hS hE
  exact ⟨v, w, r, σ, .inl hr, hk, hS, Ev.refl σ w, hv⟩

end
end Go.Av
end

section
namespace Go.Av
set_option linter.unusedVariables false
open Go Go.RowKit

def StLe : Store → Store → Prop
  | [], [] => True
  | (b, .cells e cs) :: σ, (b', .cells e' cs') :: σ' => b = b' ∧ e = e' ∧ AVleL cs cs' ∧ StLe σ σ'
  | (b, x) :: σ, (b', x') :: σ' => b = b' ∧ x = x' ∧ StLe σ σ'
  | _, _ => False

theorem StLe.keys : ∀ {σ σ' : Store}, StLe σ σ' → σ'.keys = σ.keys
  | [], [], _ => rfl
  | (b, .cells e cs) :: σ, (b', .cells e' cs') :: σ', h => by
    obtain ⟨rfl, _, _, h⟩ := h
    have := StLe.keys h
    simp only [Store.keys] at this
    simp [Store.keys, this]
  | (b, .tok e k) :: σ, (b', x') :: σ', h => by
    have h : b = b' ∧ _ ∧ StLe σ σ' := h
    have := StLe.keys h.2.2
    simp only [Store.keys] at this
    simp [Store.keys, this, h.1]
  | (b, .map es) :: σ, (b', x') :: σ', h => by
    have h : b = b' ∧ _ ∧ StLe σ σ' := h
    have := StLe.keys h.2.2
    simp only [Store.keys] at this
    simp [Store.keys, this, h.1]
  | (b, .cells e cs) :: σ, (b', .tok _ _) :: σ', h => by
    have h : b = b' ∧ _ ∧ StLe σ σ' := h
    cases h.2.1
  | (b, .cells e cs) :: σ, (b', .map _) :: σ', h => by
    have h : b = b' ∧ _ ∧ StLe σ σ' := h
    cases h.2.1
  | [], _ :: _, h => h.elim
  | (_, .cells _ _) :: _, [], h => h.elim
  | (_, .tok _ _) :: _, [], h => h.elim
  | (_, .map _) :: _, [], h => h.elim

theorem StLe.back : ∀ {σ σ' : Store}, StLe σ σ' → ∀ {b : Nat} {x' : AObj}, (b, x') ∈ σ' → ∃ x, (b, x) ∈ σ ∧ (x = x' ∨ ∃ e cs cs', x = .cells e cs ∧ x' = .cells e cs' ∧ AVleL cs cs')
  | [], [], _, b, x', h => by simp at h
  | (b, .cells e cs) :: σ, (b', .cells e' cs') :: σ', h, c, x', hm => by
    obtain ⟨rfl, rfl, hl, h⟩ := h
    rcases List.mem_cons.1 hm with e1 | hm
    · cases e1
      exact ⟨_, List.mem_cons_self .., .inr ⟨_, _, _, rfl, rfl, hl⟩⟩
    · obtain ⟨x, hx, hr⟩ := StLe.back h hm
      exact ⟨x, List.mem_cons_of_mem _ hx, hr⟩
  | (b, .tok e k) :: σ, (b', y) :: σ', h, c, x', hm => by
    have h2 : b = b' ∧ _ = y ∧ StLe σ σ' := h
    obtain ⟨rfl, rfl, h3⟩ := h2
    rcases List.mem_cons.1 hm with e1 | hm
    · cases e1; exact ⟨_, List.mem_cons_self .., .inl rfl⟩
    · obtain ⟨x, hx, hr⟩ := StLe.back h3 hm
      exact ⟨x, List.mem_cons_of_mem _ hx, hr⟩
  | (b, .map es) :: σ, (b', y) :: σ', h, c, x', hm => by
    have h2 : b = b' ∧ _ = y ∧ StLe σ σ' := h
    obtain ⟨rfl, rfl, h3⟩ := h2
    rcases List.mem_cons.1 hm with e1 | hm
    · cases e1; exact ⟨_, List.mem_cons_self .., .inl rfl⟩
    · obtain ⟨x, hx, hr⟩ := StLe.back h3 hm
      exact ⟨x, List.mem_cons_of_mem _ hx, hr⟩
  | (b, .cells e cs) :: σ, (b', .tok _ _) :: σ', h, _, _, _ => by
    have h : b = b' ∧ _ ∧ StLe σ σ' := h
    cases h.2.1
  | (b, .cells e cs) :: σ, (b', .map _) :: σ', h, _, _, _ => by
    have h : b = b' ∧ _ ∧ StLe σ σ' := h
    cases h.2.1
  | [], _ :: _, h, _, _, _ => h.elim
  | (_, .cells _ _) :: _, [], h, _, _, _ => h.elim
  | (_, .tok _ _) :: _, [], h, _, _, _ => h.elim
  | (_, .map _) :: _, [], h, _, _, _ => h.elim

theorem StLe.mut {σ σ' : Store} (h : StLe σ σ') {b o : Nat} (m : Mut σ' b o) : Mut σ b o := by
  obtain ⟨x', hx', hm⟩ := m
  obtain ⟨x, hx, rfl | ⟨e, cs, cs', rfl, rfl, _⟩⟩ := h.back hx'
  · exact ⟨_, hx, hm⟩
  · exact ⟨_, hx, trivial⟩

theorem StLe.ev {σ σ' : Store} (h : StLe σ σ') (w : World) : Ev σ w σ' w :=
  ⟨rfl, rfl, rfl, Nat.le_refl _, fun _ _ hn => ⟨rfl, fun hb => hn (by rw [h.keys] at hb; exact hb)⟩, fun _ _ h => h, fun _ _ hv hm => ⟨hv, fun m => hm (h.mut m)⟩⟩

theorem StLe.sat {G : Glob} {σ σ' ρ : Store} {w : World} (h : StLe σ σ') (hS : Sat G (σ ++ ρ) w) : Sat G (σ' ++ ρ) w := by
  refine Sat.step hS (h.ev w) ?_ (fun b hb => .inl (by rw [h.keys] at hb; exact hb)) (fun b x' hx' => ?_)
  · have := hS.nodup
    rw [keys_append] at this
    rw [h.keys]
    exact (List.nodup_append.1 this).1
  · obtain ⟨x, hx, hr⟩ := h.back hx'
    have ho := hS.obj b x (List.mem_append.2 (.inl hx))
    have ev : ∀ {xs us}, RepL (σ ++ ρ) w xs us → RepL (σ' ++ ρ) w xs us := fun hr => RepL.ev (h.ev w) _ _ hr
    rcases hr with rfl | ⟨e, cs, cs', rfl, rfl, hl⟩
    · cases x with
      | cells e cs => obtain ⟨vs, h1, h2, h3⟩ := ho; exact ⟨vs, h1, h2, ev h3⟩
      | tok e k => exact ho
      | map es => obtain ⟨ents, c, h1, h2, h3⟩ := ho; exact ⟨ents, c, h1, h2, ev h3⟩
    · obtain ⟨vs, h1, h2, h3⟩ := ho
      exact ⟨vs, h1, h2, hl.rep (ev h3)⟩

theorem Weak.st {G : Glob} {env : Env} {σ σ' : Store} (hs : StLe σ σ') : Weak G env σ env σ' := fun ρ w _ hS hE => ⟨hs.sat hS, hs.ev w, fun j => Rep.ev (hs.ev w) _ _ (hE j)⟩
end Go.Av
end

section
namespace Go.Av
open Go Go.RowKit

def byteRows (t : List UInt8) : List (List AV) := t.map fun c => [.int .u8 c.toNat]
theorem byteRows_len (t : List UInt8) : (byteRows t).length = t.length := by simp [byteRows]
theorem erase_none (σ : Store) : Store.erase σ none = σ := rfl
theorem erase_nil (x : Nat) : Store.erase [] (some x) = [] := rfl
theorem erase_cons (k x : Nat) (o : AObj) (σ : Store) : Store.erase ((k, o) :: σ) (some x) = if k = x then Store.erase σ (some x) else (k, o) :: Store.erase σ (some x) := by
  by_cases h : k = x <;> simp [Store.erase, h]

section
variable {G : Glob} {P : Program}

theorem byteRows_rep {τ : Store} {w : World} {b : Nat} {l : List UInt8} (h : ∀ j (hj : j < l.length), w.cell? ⟨b, j, none⟩ = some (.int .u8 l[j].toNat) ∧ ¬ Mut τ b j) : RepRows τ w ⟨b, 0, none⟩ 1 0 (byteRows l) := by
  refine RepRows.of_get fun j hj => ?_
  rw [byteRows_len] at hj
  have e : (byteRows l)[j]'(by rw [byteRows_len]; exact hj) = [.int .u8 (l[j]).toNat] := by simp [byteRows]
  rw [e]
  refine ⟨rfl, ?_⟩
  simp only [RepAt]
  refine ⟨⟨.int .u8 l[j].toNat, ?_, rfl, by simp only [Rep]⟩, trivial⟩
  rw [add_lit]
  simpa [Fixed] using h j hj

theorem Sat.setRow {σ ρ : Store} {w : World} {b off : Nat} {e : TypeId} {cs c : List AV} {us : List Value} (hS : Sat G (σ ++ ρ) w) (hg : σ.get b = some (.cells e cs)) (r1 : RepL (σ ++ ρ) w c us) (r2 : ∀ v ∈ us, v.oneCell' = true)
    (hle : off + c.length ≤ cs.length) :
    ∃ vs, w.heap[b]? = some (.cells vs e (0, 0)) ∧ vs.size = cs.length ∧ Ev σ w (σ.set b (.cells e (splice cs off c))) (w.setRow b (vs.toList.take off ++ us ++ vs.toList.drop (off + us.length)).toArray) ∧
      Sat G (σ.set b (.cells e (splice cs off c)) ++ ρ) (w.setRow b (vs.toList.take off ++ us ++ vs.toList.drop (off + us.length)).toArray) := by
  have hm := Store.get_mem hg
  obtain ⟨vs, hh, h1, hr⟩ := hS.obj b _ (List.mem_append.2 (.inl hm))
  have l1 := hr.length
  have l2 := r1.length
  have hsize : ((vs.toList.take off ++ us ++ vs.toList.drop (off + us.length)).toArray).size = vs.size := by simp at l1 l2 ⊢; omega
  have hev : Ev σ w (σ.set b (.cells e (splice cs off c))) (w.setRow b (vs.toList.take off ++ us ++ vs.toList.drop (off + us.length)).toArray) := Ev.setRow hm hh hsize
  refine ⟨vs, hh, by simpa using l1, hev, ?_⟩
  have hnd := hS.nodup_left
  refine hS.step hev (by rw [set_keys]; exact hnd) (fun k hk => .inl (by rwa [set_keys] at hk)) ?_
  intro k z hz
  rcases set_mem hz hnd with ⟨rfl, rfl⟩ | ⟨hne, hz⟩
  · refine ⟨_, setRow_heap w k vs _ e (0, 0) hh, ?_, ?_⟩
    · intro v hv
      simp only [List.mem_append] at hv
      rcases hv with (hv | hv) | hv
      · exact h1 v (List.mem_of_mem_take hv)
      · exact r2 v hv
      · exact h1 v (List.mem_of_mem_drop hv)
    · have q1 := RepL.ev hev _ _ hr
      have q2 := RepL.ev hev _ _ r1
      have e1 := splice_eq cs off c (by omega)
      generalize (σ.set k (.cells e (splice cs off c)) ++ ρ : Store) = τ' at *
      generalize w.setRow k _ = w2 at *
      rw [e1]
      rw [l2]
      exact RepL.append (RepL.append (RepL.take _ q1) q2) (RepL.drop _ q1)
  · exact (hS.obj k z (List.mem_append.2 (.inl hz))).keep hev (setRow_other w b k _ hne)

theorem RAW_strBytes {src dst elem : TypeId} {i : Nat} {l : List UInt8} {env : Env} {σ : Store} {K : AV → Store → Prop} (hi : env.get i = .str l) (hlen : l.length < 1000000000)
    (hs : P.underlying src = some .string) (hd : P.underlying dst = some (.slice elem)) (he : P.underlying elem = some (.int .u8)) (hk : K (.lst 1 (byteRows l)) σ) : RAW G P (.convert src dst (.tmp i)) env σ K ⟨⟩ := by
  intro ρ w a op ho hS hE
  have h1 := hE i
  rw [hi] at h1
  simp only [Rep] at h1
  have e3 : a.eval (.tmp i) = .string ⟨⟨l⟩⟩ := h1
  have hrun := run_bytes_of_string (P := P) w src dst elem ⟨⟨l⟩⟩ hs hd he
  have hge := grownCap_ge w l.length 0 elem
  have hcm := grownCap_le_maxLen w l.length 0 elem (by unfold maxLen; omega)
  generalize hcp : grownCap w l.length 0 elem = cp at *
  have hsz : (⟨⟨l⟩⟩ : ByteArray).size = l.length := rfl
  rw [hsz] at hrun
  rw [hcp] at hrun
  have hev : Ev σ w σ (w.drew.alloc (.cells (bytesRow ⟨⟨l⟩⟩ cp) elem ((bytesRow ⟨⟨l⟩⟩ cp).size, (bytesRow ⟨⟨l⟩⟩ cp).size + 1))) := Ev.trans Ev.drew (Ev.alloc0 _)
  have hlt : ∀ b x, (b, x) ∈ σ ++ ρ → b < w.heap.size := fun b x hx => (hS.obj b x hx).lt
  refine ⟨_, _, .lst 1 (byteRows l), σ, .inl (by simp [execOp, ho, e3, hrun]; rfl), hk, ?_, hev, ?_⟩
  · refine hS.step hev hS.nodup_left (fun b hb => .inl hb) (fun b x hx => (hS.obj b x (List.mem_append.2 (.inl hx))).keep hev ?_)
    exact Below.heap_alloc _ _ b (hlt b x (List.mem_append.2 (.inl hx)))
  · simp only [Rep]
    right
    rw [byteRows_len]
    refine ⟨_, _, rfl, hge, hcm, byteRows_rep fun j hj => ⟨?_, ?_⟩⟩
    · have hb : (w.drew.alloc (.cells (bytesRow ⟨⟨l⟩⟩ cp) elem ((bytesRow ⟨⟨l⟩⟩ cp).size, (bytesRow ⟨⟨l⟩⟩ cp).size + 1))).heap[w.heap.size]? = some (.cells (bytesRow ⟨⟨l⟩⟩ cp) elem ((bytesRow ⟨⟨l⟩⟩ cp).size, (bytesRow ⟨⟨l⟩⟩ cp).size + 1)) := by
        show (w.heap.push _)[w.heap.size]? = _
        simp
      simp only [World.cell?, hb]
      have := bytesRow_at ⟨⟨l⟩⟩ cp j hj
      simpa using this
    · rintro ⟨x, hx, _⟩
      exact Nat.lt_irrefl _ (hlt _ _ hx)

theorem madeCells_mem {z : Array Value} {n : Nat} {v : Value} (hz : 0 < z.size) (h : v ∈ (madeCells z n).toList) : v ∈ z.toList := by
  unfold madeCells at h
  simp only [Array.toList_map, List.mem_map] at h
  obtain ⟨i, hi, rfl⟩ := h
  have hm := Nat.mod_lt i hz
  rw [getElem!_pos z (i % z.size) hm]
  simp

end
end Go.Av
end

section
namespace Go.Av
open Go Go.RowKit

section
variable {G : Glob}

end
end Go.Av
end

section
namespace Go.Av
open Go Go.RowKit

theorem wrap_i64 {x : Int} (h1 : -9223372036854775808 ≤ x) (h2 : x < 9223372036854775808) : IntKind.i64.wrap x = x := by
  have := IntWalk.i64_in x ⟨h1, by omega⟩
  exact this
theorem natBeq (n : Nat) : (n == n) = true := by simp
set_option linter.defProp false
def EV5 := (And.intro (And.intro (And.intro (And.intro (And.intro @List.contains_cons.{0} @List.contains_nil.{0}) (And.intro @Bool.or_false @Bool.false_or)) (And.intro (And.intro @Bool.or_true @Bool.true_or) (And.intro @Bool.not_true (And.intro @Bool.not_false @List.map_cons.{0, 0})))) (And.intro (And.intro (And.intro @List.map_nil.{0, 0} @retQ_ret) (And.intro @retQ_normal @RX_nil)) (And.intro (And.intro @RX_tmp @RX_cell) (And.intro @one_nil (And.intro @one_one @one_two))))) (And.intro (And.intro (And.intro (And.intro @argEnv_nil @argEnv_cons) (And.intro @List.length_cons.{0} @List.length_nil.{0})) (And.intro (And.intro @List.cons_append.{0} @List.nil_append.{0}) (And.intro @List.drop_succ_cons.{0} (And.intro @List.drop_zero.{0} @List.drop_nil.{0})))) (And.intro (And.intro (And.intro @List.take_succ_cons.{0} @List.take_zero.{0}) (And.intro @List.headD_cons.{0} @true_and)) (And.intro (And.intro @and_true @Nat.le_refl) (And.intro @List.getD_cons_zero.{0} (And.intro @List.getD_cons_succ.{0} @natBeq))))))
def EV6 := (And.intro (And.intro (And.intro (And.intro @decide_true @decide_false) (And.intro @Nat.zero_add @Nat.mul_one)) (And.intro (And.intro @Int.cast_ofNat_Int @Int.toNat_zero) (And.intro @Bool.true_eq_false @Bool.false_eq_true))) (And.intro (And.intro (And.intro @not_true_eq_false @not_false_eq_true) (And.intro @wrap_i64 @ne_eq)) (And.intro (And.intro @Option.map_some @Bool.true_and) (And.intro @Bool.and_true (And.intro @Bool.false_and @Bool.and_false)))))
end Go.Av
end

section
namespace Go.Av
open Go Go.RowKit
set_option linter.unusedVariables false
set_option linter.unusedSimpArgs false

structure MapK (P : Program) (kT : TypeId) {κ : Type} [DecidableEq κ] (val : κ → Value) : Prop where
  ck : ∀ (em : Bool) (k : κ) (w : World), (Instr.checkKey em 10000 kT (val k)).run P w = .ok () w
  find : ∀ (k : κ) (ks : List κ) (ents : List MapEntry) (w : World), ents.map (·.key) = ks.map val →
    (Instr.findKey kT (val k) ents).run P w = .ok (((ks.zip ents).zipIdx.find? fun q => decide (q.1.1 = k)).map fun q => (q.2, q.1.2.val)) w
  stays : ∀ (k : κ) (w : World), (Instr.keyThatStays (val k) (val k)).run P w = .ok (val k) w

def mgets {κ : Type} [DecidableEq κ] (k : κ) : List (κ × AV) → Option AV
  | [] => none
  | p :: l => if p.1 = k then some p.2 else mgets k l
def mputs {κ : Type} [DecidableEq κ] (k : κ) (x : AV) : List (κ × AV) → List (κ × AV)
  | [] => [(k, x)]
  | p :: l => if p.1 = k then (p.1, x) :: l else p :: mputs k x l
def mrows {κ : Type} (val : κ → Value) (l : List (κ × AV)) : List (Value × AV) := l.map fun p => (val p.1, p.2)

section
variable {G : Glob} {P : Program} {env : Env} {σ : Store} {K : AV → Store → Prop} {κ : Type} [DecidableEq κ] {kT : TypeId} {val : κ → Value}

theorem find_shift {α : Type} (p : α → Bool) : ∀ (l : List α) (n : Nat), ((l.zipIdx (n + 1)).find? fun q => p q.1) = ((l.zipIdx n).find? fun q => p q.1).map fun q => (q.1, q.2 + 1)
  | [], n => rfl
  | a :: l, n => by
    simp only [List.zipIdx_cons, List.find?_cons]
    cases h : p a with
    | true => simp
    | false => simp only []; exact find_shift p l (n + 1)

theorem find_rep {τ : Store} {w : World} (k : κ) : ∀ (l : List (κ × AV)) (ents : List MapEntry), ents.map (·.key) = (l.map fun p => val p.1) → RepL τ w (l.map (·.2)) (ents.map (·.val)) →
    (mgets k l = none ∧ (((l.map (·.1)).zip ents).zipIdx.find? fun q => decide (q.1.1 = k)) = none) ∨
    ∃ x i e, mgets k l = some x ∧ (((l.map (·.1)).zip ents).zipIdx.find? fun q => decide (q.1.1 = k)) = some ((k, e), i) ∧ ents[i]? = some e ∧ Rep τ w x e.val ∧ e.key = val k ∧
      (∀ v y, Rep τ w y v → RepL τ w ((mputs k y l).map (·.2)) ((ents.modify i fun e => { e with key := val k, val := v }).map (·.val)) ∧ (ents.modify i fun e => { e with key := val k, val := v }).map (·.key) = (mputs k y l).map fun p => val p.1)
  | [], ents, hk, hr => .inl ⟨rfl, by simp⟩
  | p :: l, [], hk, hr => by simp at hk
  | p :: l, e :: ents, hk, hr => by
    simp only [List.map_cons, List.cons.injEq] at hk
    simp only [List.map_cons, RepL] at hr
    obtain ⟨u, us, h1, h2, h3⟩ := hr
    injection h1 with h1 h1'
    subst h1 h1'
    by_cases hp : p.1 = k
    · right
      subst hp
      refine ⟨p.2, 0, e, by simp [mgets], by simp [List.zipIdx_cons], rfl, h2, hk.1, fun v y hy => ?_⟩
      simp only [mputs, if_true, List.modify_zero_cons, List.map_cons, RepL]
      exact ⟨⟨v, _, rfl, hy, h3⟩, by rw [hk.2]⟩
    · rcases find_rep k l ents hk.2 h3 with ⟨a1, a2⟩ | ⟨x, i, e', a1, a2, a3, a4, a5, a6⟩
      · left
        refine ⟨by simp [mgets, hp, a1], ?_⟩
        simp only [List.map_cons, List.zip_cons_cons, List.zipIdx_cons, List.find?_cons, hp, decide_false]
        have := find_shift (fun q : κ × MapEntry => decide (q.1 = k)) ((l.map (·.1)).zip ents) 0
        rw [Nat.zero_add] at *
        rw [this, a2]; rfl
      · right
        refine ⟨x, i + 1, e', by simp [mgets, hp, a1], ?_, by simpa using a3, a4, a5, fun v y hy => ?_⟩
        · simp only [List.map_cons, List.zip_cons_cons, List.zipIdx_cons, List.find?_cons, hp, decide_false]
          have := find_shift (fun q : κ × MapEntry => decide (q.1 = k)) ((l.map (·.1)).zip ents) 0
          rw [Nat.zero_add] at *
          rw [this, a2]; rfl
        · obtain ⟨b1, b2⟩ := a6 v y hy
          simp only [mputs, if_neg hp, List.modify_succ_cons, List.map_cons, RepL]
          exact ⟨⟨_, _, rfl, h2, b1⟩, by rw [hk.1, b2]⟩

theorem mputs_none {k : κ} {x : AV} : ∀ {l : List (κ × AV)}, mgets k l = none → mputs k x l = l ++ [(k, x)]
  | [], _ => rfl
  | p :: l, h => by
    simp only [mgets] at h
    split at h
    · cases h
    · rename_i hp
      simp only [mputs, if_neg hp, List.cons_append, mputs_none h]

theorem set_sub {b k : Nat} {y z : AObj} : ∀ {σ : Store}, (k, z) ∈ σ.set b y → (k, z) ∈ σ ∨ (k = b ∧ z = y)
  | [], h => by simp [Store.set] at h
  | (k0, x0) :: s, h => by
    simp only [Store.set] at h
    split at h
    · rename_i hk
      rcases List.mem_cons.1 h with h | h
      · cases h; exact .inr ⟨hk, rfl⟩
      · exact .inl (List.mem_cons_of_mem _ h)
    · rcases List.mem_cons.1 h with h | h
      · cases h; exact .inl (by simp)
      · rcases set_sub h with h | h
        · exact .inl (List.mem_cons_of_mem _ h)
        · exact .inr h

theorem Ev.setMap {w : World} {b : Nat} {es es' : List (Value × AV)} {ents ents' : Array MapEntry} {c c' : Nat} (hm : (b, AObj.map es) ∈ σ) (hh : w.heap[b]? = some (.map ents c)) :
    Ev σ w (σ.set b (.map es')) { w with heap := w.heap.setIfInBounds b (.map ents' c') } := by
  have hlt : b < w.heap.size := (Array.getElem?_eq_some_iff.1 hh).1
  have hot : ∀ k, k ≠ b → (w.heap.setIfInBounds b (.map ents' c'))[k]? = w.heap[k]? := fun k hk => by simp [Ne.symm hk]
  have hmut : ∀ o, Mut σ b o := fun o => ⟨_, hm, trivial⟩
  refine ⟨rfl, rfl, rfl, by simp, fun k hk hn => ⟨hot k (fun e => hn (by rw [e]; exact List.mem_map.2 ⟨_, hm, rfl⟩)), fun h => hn (by rwa [set_keys] at h)⟩, ?_, ?_⟩
  · intro k s hs
    by_cases hk : k = b
    · subst hk
      simp [World.shape?, hh] at hs
    · unfold World.shape? at *
      rw [hot k hk]
      exact hs
  · intro a v hv hn
    by_cases hk : a.block = b
    · exact absurd (hk ▸ hmut a.off) hn
    · refine ⟨?_, ?_⟩
      · unfold World.cell? at *
        rw [hot _ hk]
        exact hv
      · rintro ⟨x, hx, hxm⟩
        rcases set_sub hx with hx | ⟨e, _⟩
        · exact hn ⟨x, hx, hxm⟩
        · exact hk e

theorem RAW_makeMap {t : TypeId} (hk : ∀ b, b ∉ σ.keys → K (.sc (.map (some b))) ((b, .map []) :: σ)) : RAW G P (.makeMap t none) env σ K ⟨⟩ := by
  intro ρ w a op ho hS hE
  have hnew : (w.alloc (.map #[] 0)).heap[w.heap.size]? = some (.map #[] 0) := heap_alloc_new w _
  refine ⟨.map (some w.heap.size), w.alloc (.map #[] 0), .sc (.map (some w.heap.size)), _, .inl ?_, hk _ (fresh_key hS), hS.alloc _ _ ⟨#[], 0, hnew, rfl, by simp [RepL]⟩, Ev.alloc _ _, by simp only [Rep]⟩
  simp [execOp, ho, run_makeMap]

theorem RAW_lookup (M : MapK P kT val) {xT eT : TypeId} {x ix : Operand} {cm : Bool} {b : Nat} {l : List (κ × AV)} {k : κ} {z : Value} {zv : AV} (hx : (SOpd.of x).eval G env = .sc (.map (some b)))
    (hix : ∀ τ w v, Rep τ w ((SOpd.of ix).eval G env) v → v = val k) (hu : P.underlying xT = some (.map kT eT)) (hg : σ.get b = some (.map (mrows val l))) (hz : (P.info? eT).bind (·.zero) = some z) (hzv : ∀ τ w, Rep τ w zv z)
    (hk : K (if cm then .tup [(mgets k l).getD zv, .bool (mgets k l).isSome] else (mgets k l).getD zv) σ) : RAW G P (.lookup xT x ix cm) env σ K ⟨⟩ := by
  refine RAW_quiet _ (fun ρ w a op ho hS hE => ?_) hk
  have h1 := eval_rep hS hE x
  have h2 := hix _ _ _ (eval_rep hS hE ix)
  rw [hx] at h1
  simp only [Rep] at h1
  obtain ⟨ents, c, hh, hke, hve⟩ := hS.obj b _ (List.mem_append.2 (.inl (Store.get_mem hg)))
  have e1 : ents.toList.map (·.key) = l.map fun p => val p.1 := by rw [hke]; simp [mrows]
  have e2 : (mrows val l).map (·.2) = l.map (·.2) := by simp [mrows]
  rw [e2] at hve
  have e3 := M.find k (l.map (·.1)) ents.toList w (by rw [e1]; simp)
  have hz' : (zeroValue eT).run P w = .ok z w := by
    obtain ⟨i, hi, hiz⟩ := Option.bind_eq_some_iff.1 hz
    have hti : (typeInfo eT).run P w = .ok i w := run_typeInfo w hi
    simp [zeroValue, hti, hiz]
  have hck : ∀ em, (Instr.checkKey em 10000 kT (val k)).run P w = .ok () w := fun em => M.ck em k w
  have hgo : (getObj b).run P w = .ok (.map ents c) w := by simp [getObj, Sem.run, hh]
  have hso : ∀ o, (setObj b o).run P w = .ok () { w with heap := w.heap.setIfInBounds b o } := fun o => by simp [setObj, Sem.run, hh]
  rcases find_rep k l ents.toList e1 hve with ⟨a1, a2⟩ | ⟨y, i, e, a1, a2, a3, a4, _, _⟩
  · refine ⟨if cm then .tuple #[z, .bool false] else z, ?_, ?_⟩
    · simp [execOp, ho, h1, h2, Instr.lookup, run_underlying hu, hgo, hck, e3, a2, hz']
    · rw [a1]
      cases cm with
      | false => simpa using hzv _ _
      | true => simp only [if_true, Option.getD_none, Option.isSome_none, Rep]; exact ⟨_, rfl, by simp only [RepL]; exact ⟨_, _, rfl, hzv _ _, _, _, rfl, by simp only [Rep], rfl⟩⟩
  · refine ⟨if cm then .tuple #[e.val, .bool true] else e.val, ?_, ?_⟩
    · simp [execOp, ho, h1, h2, Instr.lookup, run_underlying hu, hgo, hck, e3, a2]
    · rw [a1]
      cases cm with
      | false => simpa using a4
      | true => simp only [if_true, Option.getD_some, Option.isSome_some, Rep]; exact ⟨_, rfl, by simp only [RepL]; exact ⟨_, _, rfl, a4, _, _, rfl, by simp only [Rep], rfl⟩⟩

theorem RAW_mapUpdate (M : MapK P kT val) {xT eT : TypeId} {x ix y : Operand} {b : Nat} {l : List (κ × AV)} {k : κ} {yv : AV} (hx : (SOpd.of x).eval G env = .sc (.map (some b)))
    (hix : ∀ τ w v, Rep τ w ((SOpd.of ix).eval G env) v → v = val k) (hy : (SOpd.of y).eval G env = yv) (hu : P.underlying xT = some (.map kT eT)) (hg : σ.get b = some (.map (mrows val l)))
    (hk : K undefAV (σ.set b (.map (mrows val (mputs k yv l))))) : RAW G P (.mapUpdate xT x ix y) env σ K ⟨⟩ := by
  intro ρ w a op ho hS hE
  have h1 := eval_rep hS hE x
  have h2 := hix _ _ _ (eval_rep hS hE ix)
  have h3 := eval_rep hS hE y
  rw [hx] at h1
  rw [hy] at h3
  simp only [Rep] at h1
  have hm := Store.get_mem hg
  obtain ⟨ents, c, hh, hke, hve⟩ := hS.obj b _ (List.mem_append.2 (.inl hm))
  have e1 : ents.toList.map (·.key) = l.map fun p => val p.1 := by rw [hke]; simp [mrows]
  have e2 : (mrows val l).map (·.2) = l.map (·.2) := by simp [mrows]
  rw [e2] at hve
  have e3 := M.find k (l.map (·.1)) ents.toList w (by rw [e1]; simp)
  have hlt : b < w.heap.size := (Array.getElem?_eq_some_iff.1 hh).1
  have fin : ∀ (ents' : Array MapEntry) (c' : Nat), ents'.toList.map (·.key) = ((mputs k yv l).map fun p => val p.1) → RepL (σ ++ ρ) w ((mputs k yv l).map (·.2)) (ents'.toList.map (·.val)) →
      Sat G (σ.set b (.map (mrows val (mputs k yv l))) ++ ρ) { w with heap := w.heap.setIfInBounds b (.map ents' c') } ∧ Ev σ w (σ.set b (.map (mrows val (mputs k yv l)))) { w with heap := w.heap.setIfInBounds b (.map ents' c') } := by
    intro ents' c' g1 g2
    have hev : Ev σ w (σ.set b (.map (mrows val (mputs k yv l)))) { w with heap := w.heap.setIfInBounds b (.map ents' c') } := Ev.setMap hm hh
    refine ⟨?_, hev⟩
    have hnd := hS.nodup_left
    refine hS.step hev (by rw [set_keys]; exact hnd) (fun k hk => .inl (by rwa [set_keys] at hk)) ?_
    intro k' q hq
    rcases set_mem hq hnd with ⟨rfl, rfl⟩ | ⟨hne, hq⟩
    · refine ⟨ents', c', by simp [hlt], by rw [g1]; simp [mrows], ?_⟩
      have := RepL.ev hev _ _ g2
      have e4 : (mrows val (mputs k yv l)).map (·.2) = (mputs k yv l).map (·.2) := by simp [mrows]
      rw [e4]; exact this
    · exact (hS.obj k' q (List.mem_append.2 (.inl hq))).keep hev (by simp [Ne.symm hne])
  have hck : ∀ em, (Instr.checkKey em 10000 kT (val k)).run P w = .ok () w := fun em => M.ck em k w
  have hgo : (getObj b).run P w = .ok (.map ents c) w := by simp [getObj, Sem.run, hh]
  have hso : ∀ o, (setObj b o).run P w = .ok () { w with heap := w.heap.setIfInBounds b o } := fun o => by simp [setObj, Sem.run, hh]
  rcases find_rep k l ents.toList e1 hve with ⟨a1, a2⟩ | ⟨u, i, e, a1, a2, a3, a4, a5, a6⟩
  · obtain ⟨s1, s2⟩ := fin (ents.push { key := val k, val := a.eval y, born := c }) (c + 1) (by rw [mputs_none a1]; simp [e1]) (by
      rw [mputs_none a1]
      simp only [List.map_append, List.map_cons, List.map_nil, Array.toList_push]
      exact RepL.append hve (by simp only [RepL]; exact ⟨_, _, rfl, h3, rfl⟩))
    refine ⟨undef, _, undefAV, _, .inr ⟨?_, rfl⟩, hk, s1, s2, ?_⟩
    · simp [execOp, ho, h1, h2, Instr.mapUpdate, run_underlying hu, hgo, hck, e3, a2, hso]
    · exact rep_undef _ _
  · obtain ⟨b1, b2⟩ := a6 (a.eval y) yv h3
    have hst := M.stays k w
    have a3' : ents[i]? = some e := by simpa using a3
    obtain ⟨s1, s2⟩ := fin (ents.modify i fun e => { e with key := val k, val := a.eval y }) c (by simpa [Array.toList_modify] using b2) (by simpa [Array.toList_modify] using b1)
    refine ⟨undef, _, undefAV, _, .inr ⟨?_, rfl⟩, hk, s1, s2, ?_⟩
    · simp [execOp, ho, h1, h2, Instr.mapUpdate, run_underlying hu, hgo, hck, e3, a2, a3', a5, hst, hso]
    · exact rep_undef _ _
end
end Go.Av
end
