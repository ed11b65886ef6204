/-
  ABSTRACT VALUES, 21: rows of bytes; rows that are made, copied into, turned into strings.
-/
import Derived.Test.YtmghejoigggooaaGreatDoorXAv20
import Derived.Laws.IdiomStrings
import Derived.Laws.CopyRow
import Derived.Laws.MakeOwn
import Derived.Laws.OwnMore
import Derived.Lib.BufferRead
namespace Go.Av
open Go Go.RowKit

def byteRows (t : List UInt8) : List (List AV) := t.map fun c => [.int .u8 c.toNat]
def byteAVs (t : List UInt8) : List AV := t.map fun c => .int .u8 c.toNat
theorem byteRows_app (t u : List UInt8) : byteRows (t ++ u) = byteRows t ++ byteRows u := by simp [byteRows]
theorem byteRows_len (t : List UInt8) : (byteRows t).length = t.length := by simp [byteRows]
theorem byteAVs_app (t u : List UInt8) : byteAVs (t ++ u) = byteAVs t ++ byteAVs u := by simp [byteAVs]
theorem byteAVs_len (t : List UInt8) : (byteAVs t).length = t.length := by simp [byteAVs]

theorem erase_none (σ : Store) : Store.erase σ none = σ := rfl
theorem erase_nil (x : Nat) : Store.erase [] (some x) = [] := rfl
theorem erase_cons (k x : Nat) (o : AObj) (σ : Store) : Store.erase ((k, o) :: σ) (some x) = if k = x then Store.erase σ (some x) else (k, o) :: Store.erase σ (some x) := by
  by_cases h : k = x <;> simp [Store.erase, h]

section
variable {G : Glob} {P : Program}

theorem byteRows_cells {τ : Store} {w : World} {a : Addr} {l : List UInt8} (h : RepRows τ w a 1 0 (byteRows l)) (j : Nat) (hj : j < l.length) : w.cell? (a.add j) = some (.int .u8 l[j].toNat) ∧ ¬ Mut τ a.block (a.off + j) := by
  have h7 := h.get j (by rw [byteRows_len]; exact hj)
  have e : (byteRows l)[j]'(by rw [byteRows_len]; exact hj) = [.int .u8 (l[j]).toNat] := by simp [byteRows]
  rw [e] at h7
  obtain ⟨_, h7⟩ := h7
  simp only [RepAt] at h7
  obtain ⟨⟨u, h8, _, h9⟩, _⟩ := h7
  simp only [Rep] at h9
  subst h9
  have h1 := h8.1
  have h2 := h8.2
  rw [add_block, add_off] at h2
  simp only [Nat.zero_add, Nat.mul_one] at h1 h2
  exact ⟨h1, h2⟩

theorem byteRows_rep {τ : Store} {w : World} {b : Nat} {l : List UInt8} (h : ∀ j (hj : j < l.length), w.cell? ⟨b, j, none⟩ = some (.int .u8 l[j].toNat) ∧ ¬ Mut τ b j) : RepRows τ w ⟨b, 0, none⟩ 1 0 (byteRows l) := by
  refine RepRows.of_get fun j hj => ?_
  rw [byteRows_len] at hj
  have e : (byteRows l)[j]'(by rw [byteRows_len]; exact hj) = [.int .u8 (l[j]).toNat] := by simp [byteRows]
  rw [e]
  refine ⟨rfl, ?_⟩
  simp only [RepAt]
  refine ⟨⟨.int .u8 l[j].toNat, ?_, rfl, by simp only [Rep]⟩, trivial⟩
  rw [add_lit]
  simpa [Fixed] using h j hj

/-- Cells of a block of the store are written. -/
theorem Sat.setRow {σ ρ : Store} {w : World} {b off : Nat} {e : TypeId} {cs c : List AV} {us : List Value} (hS : Sat G (σ ++ ρ) w) (hg : σ.get b = some (.cells e cs)) (r1 : RepL (σ ++ ρ) w c us) (r2 : ∀ v ∈ us, v.oneCell' = true)
    (hle : off + c.length ≤ cs.length) :
    ∃ vs, w.heap[b]? = some (.cells vs e (0, 0)) ∧ vs.size = cs.length ∧ Ev σ w (σ.set b (.cells e (splice cs off c))) (w.setRow b (vs.toList.take off ++ us ++ vs.toList.drop (off + us.length)).toArray) ∧
      Sat G (σ.set b (.cells e (splice cs off c)) ++ ρ) (w.setRow b (vs.toList.take off ++ us ++ vs.toList.drop (off + us.length)).toArray) := by
  have hm := Store.get_mem hg
  obtain ⟨vs, hh, h1, hr⟩ := hS.obj b _ (List.mem_append.2 (.inl hm))
  have l1 := hr.length
  have l2 := r1.length
  have hsize : ((vs.toList.take off ++ us ++ vs.toList.drop (off + us.length)).toArray).size = vs.size := by simp at l1 l2 ⊢; omega
  have hev : Ev σ w (σ.set b (.cells e (splice cs off c))) (w.setRow b (vs.toList.take off ++ us ++ vs.toList.drop (off + us.length)).toArray) := Ev.setRow hm hh hsize
  refine ⟨vs, hh, by simpa using l1, hev, ?_⟩
  have hnd := hS.nodup_left
  refine hS.step hev (by rw [set_keys]; exact hnd) (fun k hk => .inl (by rwa [set_keys] at hk)) ?_
  intro k z hz
  rcases set_mem hz hnd with ⟨rfl, rfl⟩ | ⟨hne, hz⟩
  · refine ⟨_, setRow_heap w k vs _ e (0, 0) hh, ?_, ?_⟩
    · intro v hv
      simp only [List.mem_append] at hv
      rcases hv with (hv | hv) | hv
      · exact h1 v (List.mem_of_mem_take hv)
      · exact r2 v hv
      · exact h1 v (List.mem_of_mem_drop hv)
    · have q1 := RepL.ev hev _ _ hr
      have q2 := RepL.ev hev _ _ r1
      have e1 := splice_eq cs off c (by omega)
      generalize (σ.set k (.cells e (splice cs off c)) ++ ρ : Store) = τ' at *
      generalize w.setRow k _ = w2 at *
      rw [e1]
      rw [l2]
      exact RepL.append (RepL.append (RepL.take _ q1) q2) (RepL.drop _ q1)
  · exact (hS.obj k z (List.mem_append.2 (.inl hz))).keep hev (setRow_other w b k _ hne)

/-- copy into cells of the call's own. -/
theorem RAW_copy {dT sT elem : TypeId} {i j b o dl dc : Nat} {e : TypeId} {cs : List AV} {l : List UInt8} {env : Env} {σ : Store} {K : AV → Store → Prop} (hd : env.get i = .sc (.slice (some ⟨b, o, none⟩) dl dc))
    (hs : AVle (env.get j) (.lst 1 (byteRows l))) (hu : P.underlying dT = some (.slice elem)) (hsz : (P.info? elem).map (·.size) = some 1) (hg : σ.get b = some (.cells e cs)) (hl : l.length ≤ dl) (hfit : o + l.length ≤ cs.length) (hne : l ≠ [])
    (hk : K (.int .i64 l.length) (σ.set b (.cells e (splice cs o (byteAVs l))))) : RAW G P (.call (.mk (.builtin .copy) #[.tmp i, .tmp j] #[dT, sT])) env σ K ⟨⟩ := by
  intro ρ w a op ho hS hE
  have h1 := hE i
  have h2 := hs.rep (hE j)
  rw [hd] at h1
  simp only [Rep] at h1 h2
  rcases h2 with ⟨_, h2⟩ | ⟨ad, cap, h2, _, _, h3⟩
  · exact absurd (by simpa [byteRows] using h2) hne
  rw [byteRows_len] at h2
  have hcell := byteRows_cells h3
  have hr : RepL (σ ++ ρ) w (byteAVs l) (l.map fun c => Value.int .u8 c.toNat) := RepL.of_get (by simp [byteAVs]) (fun k _ _ => by simp [byteAVs, Rep])
  obtain ⟨vs, hh, hvs, hev, hS'⟩ := hS.setRow hg hr (by intro v hv; obtain ⟨c, _, rfl⟩ := List.mem_map.1 hv; rfl) (off := o) (by rw [byteAVs_len]; exact hfit)
  have hrun := run_copy_row (P := P) w dT sT op.type elem b o dl dc ad l.length cap vs e (l.map fun c => Value.int .u8 c.toNat) hu hsz hh (by simp [Nat.min_eq_left hl]) (fun k v hv => by
    obtain ⟨hk', rfl⟩ := List.getElem?_eq_some_iff.1 hv
    simp at hk'
    rw [(hcell k hk').1]; simp) (by simp; omega) (by intro v hv; obtain ⟨c, _, rfl⟩ := List.mem_map.1 hv; rfl)
  refine ⟨goInt l.length, _, .int .i64 l.length, _, ?_, hk, hS', hev, by simp [Rep, goInt]⟩
  have e3 : a.eval (.tmp i) = .slice (some ⟨b, o, none⟩) dl dc := h1
  have e4 : a.eval (.tmp j) = .slice (some ad) l.length cap := h2
  simp only [List.length_map] at hrun
  simp [execOp, ho, resolve, invoke, builtin, e3, e4, hrun]

/-- A row of bytes becomes a string. -/
theorem RAW_bytesStr {src dst elem : TypeId} {i : Nat} {l : List UInt8} {env : Env} {σ : Store} {K : AV → Store → Prop} (hi : AVle (env.get i) (.lst 1 (byteRows l)))
    (hs : P.underlying src = some (.slice elem)) (he : P.underlying elem = some (.int .u8)) (hd : P.underlying dst = some .string) (hk : K (.str l) σ) : RAW G P (.convert src dst (.tmp i)) env σ K ⟨⟩ := by
  refine RAW_quiet _ (fun ρ w a op ho hS hE => ?_) hk
  have h1 := hi.rep (hE i)
  simp only [Rep] at h1
  refine ⟨.string ⟨l.toArray⟩, ?_, by simp only [Rep]⟩
  rcases h1 with ⟨h1, h2⟩ | ⟨ad, cap, h1, _, _, h3⟩
  · have h4 : l = [] := by simpa [byteRows] using h2
    subst h4
    have e3 : a.eval (.tmp i) = .slice none 0 0 := h1
    have h5 := Lib.run_convert_nil_bytes (P := P) w src dst elem 0 hs he hd
    simp [execOp, ho, e3, h5]
  · rw [byteRows_len] at h1
    have e3 : a.eval (.tmp i) = .slice (some ad) l.length cap := h1
    have := run_convert_bytes_back (P := P) w src dst elem ad cap l hs he hd (fun j hj => (byteRows_cells h3 j hj).1)
    simp [execOp, ho, e3, this]

/-- .. cells of the call's own. -/
theorem RAW_cellsStr {src dst elem e : TypeId} {i b c : Nat} {l : List UInt8} {cs : List AV} {env : Env} {σ : Store} {K : AV → Store → Prop} (hi : env.get i = .sc (.slice (some ⟨b, 0, none⟩) l.length c)) (hg : σ.get b = some (.cells e cs))
    (hcs : cs = byteAVs l) (hs : P.underlying src = some (.slice elem)) (he : P.underlying elem = some (.int .u8)) (hd : P.underlying dst = some .string) (hk : K (.str l) σ) : RAW G P (.convert src dst (.tmp i)) env σ K ⟨⟩ := by
  subst hcs
  refine RAW_quiet _ (fun ρ w a op ho hS hE => ?_) hk
  have h1 := hE i
  rw [hi] at h1
  simp only [Rep] at h1
  refine ⟨.string ⟨l.toArray⟩, ?_, by simp only [Rep]⟩
  have e3 : a.eval (.tmp i) = .slice (some ⟨b, 0, none⟩) l.length c := h1
  obtain ⟨vs, hh, _, hr⟩ := hS.obj b _ (List.mem_append.2 (.inl (Store.get_mem hg)))
  have := run_convert_bytes_back (P := P) w src dst elem ⟨b, 0, none⟩ c l hs he hd (fun j hj => by
    have hl := hr.length
    rw [byteAVs_len] at hl
    have h2 := hr.get j (by rw [byteAVs_len]; exact hj) (by omega)
    simp only [byteAVs, List.getElem_map, Rep] at h2
    rw [add_lit, Nat.zero_add]
    have hj' : j < vs.size := by simpa [← hl] using hj
    simp [World.cell?, hh, hj']
    simpa using h2)
  simp [execOp, ho, e3, this]

/-- A string becomes a row of bytes: a new block that no one will write. -/
theorem RAW_strBytes {src dst elem : TypeId} {i : Nat} {l : List UInt8} {env : Env} {σ : Store} {K : AV → Store → Prop} (hi : env.get i = .str l) (hlen : l.length < 1000000000)
    (hs : P.underlying src = some .string) (hd : P.underlying dst = some (.slice elem)) (he : P.underlying elem = some (.int .u8)) (hk : K (.lst 1 (byteRows l)) σ) : RAW G P (.convert src dst (.tmp i)) env σ K ⟨⟩ := by
  intro ρ w a op ho hS hE
  have h1 := hE i
  rw [hi] at h1
  simp only [Rep] at h1
  have e3 : a.eval (.tmp i) = .string ⟨⟨l⟩⟩ := h1
  have hrun := run_bytes_of_string (P := P) w src dst elem ⟨⟨l⟩⟩ hs hd he
  have hge := grownCap_ge w l.length 0 elem
  have hcm := grownCap_le_maxLen w l.length 0 elem (by unfold maxLen; omega)
  generalize hcp : grownCap w l.length 0 elem = cp at *
  have hsz : (⟨⟨l⟩⟩ : ByteArray).size = l.length := rfl
  rw [hsz] at hrun
  rw [hcp] at hrun
  have hev : Ev σ w σ (w.drew.alloc (.cells (bytesRow ⟨⟨l⟩⟩ cp) elem ((bytesRow ⟨⟨l⟩⟩ cp).size, (bytesRow ⟨⟨l⟩⟩ cp).size + 1))) := Ev.trans Ev.drew (Ev.alloc0 _)
  have hlt : ∀ b x, (b, x) ∈ σ ++ ρ → b < w.heap.size := fun b x hx => (hS.obj b x hx).lt
  refine ⟨_, _, .lst 1 (byteRows l), σ, by simp [execOp, ho, e3, hrun]; rfl, hk, ?_, hev, ?_⟩
  · refine hS.step hev hS.nodup_left (fun b hb => .inl hb) (fun b x hx => (hS.obj b x (List.mem_append.2 (.inl hx))).keep hev ?_)
    exact Below.heap_alloc _ _ b (hlt b x (List.mem_append.2 (.inl hx)))
  · simp only [Rep]
    right
    rw [byteRows_len]
    refine ⟨_, _, rfl, hge, hcm, byteRows_rep fun j hj => ⟨?_, ?_⟩⟩
    · have hb : (w.drew.alloc (.cells (bytesRow ⟨⟨l⟩⟩ cp) elem ((bytesRow ⟨⟨l⟩⟩ cp).size, (bytesRow ⟨⟨l⟩⟩ cp).size + 1))).heap[w.heap.size]? = some (.cells (bytesRow ⟨⟨l⟩⟩ cp) elem ((bytesRow ⟨⟨l⟩⟩ cp).size, (bytesRow ⟨⟨l⟩⟩ cp).size + 1)) := by
        show (w.heap.push _)[w.heap.size]? = _
        simp
      simp only [World.cell?, hb]
      have := bytesRow_at ⟨⟨l⟩⟩ cp j hj
      simpa using this
    · rintro ⟨x, hx, _⟩
      exact Nat.lt_irrefl _ (hlt _ _ hx)

/-- make, of no length: the call's own row. -/
theorem RAW_makeOwn {ty elem : TypeId} {sz i c bytes : Nat} {z : Value} {kc : IntKind} {env : Env} {σ : Store} {K : AV → Store → Prop} (hi : env.get i = .int kc (c : Nat)) (hu : P.underlying ty = some (.slice elem))
    (hin : (P.info? elem).map (fun i => (i.zero, i.size, i.bytes)) = some (some z, sz, bytes)) (hb : bytes * c ≤ 281474976710656) (hc : c < 1000000000)
    (hk : ∀ b, b ∉ σ.keys → K (.own (some b) elem sz []) ((b, .tok elem 0) :: σ)) : RAW G P (.makeSlice ty (.const (.int .i64 0)) (.tmp i)) env σ K ⟨⟩ := by
  intro ρ w a op ho hS hE
  have h1 := hE i
  rw [hi] at h1
  simp only [Rep] at h1
  obtain ⟨ti, hti, htz⟩ := Option.map_eq_some_iff.1 hin
  simp only [Prod.mk.injEq] at htz
  obtain ⟨g1, g2, g3⟩ := htz
  have e3 : a.eval (.tmp i) = .int kc (c : Nat) := h1
  have hb' : (ti.bytes : Int) * ((c : Nat) : Int) ≤ 281474976710656 := by
    rw [g3, ← Int.natCast_mul]; omega
  have hrun := run_make (P := P) w ty elem ti z hu hti g1 .i64 kc 0 (c : Nat) (by omega) (by omega) hb' (by omega)
  simp only [Int.toNat_natCast, Int.toNat_zero] at hrun
  have hnew : (w.alloc (.cells (madeCells z.cells (c * ti.size)) elem)).heap[w.heap.size]? = some (.cells (madeCells z.cells (c * ti.size)) elem (0, 0)) := heap_alloc_new w _
  have e4 : ∀ v, a.eval (.const v) = v := fun v => rfl
  refine ⟨_, _, .own (some w.heap.size) elem sz [], _, by simp [execOp, ho, e3, e4, hrun]; exact rfl, hk _ (fresh_key hS), hS.alloc _ _ ⟨_, hnew, Nat.zero_le _⟩, Ev.alloc _ _, ?_⟩
  simp only [Rep]
  refine ⟨c, rfl, Nat.zero_le _, by unfold maxLen; omega, ?_, by simp only [RepRows]⟩
  have e5 : (w.alloc (.cells (madeCells z.cells (c * ti.size)) elem)).shape? w.heap.size = some (elem, (madeCells z.cells (c * ti.size)).size) := by unfold World.shape?; rw [hnew]
  rw [e5, size_madeCells, g2]

/-- make, of a length: cells of the call's own. -/
theorem RAW_makeCells {ty elem : TypeId} {i c : Nat} {z : Value} {zv : AV} {kc : IntKind} {env : Env} {σ : Store} {K : AV → Store → Prop} (hi : env.get i = .int kc (c : Nat)) (hu : P.underlying ty = some (.slice elem))
    {bytes : Nat} (hin : (P.info? elem).map (fun i => (i.zero, i.size, i.bytes)) = some (some z, 1, bytes)) (hz1 : z.cells = #[z]) (hz2 : z.oneCell' = true) (hz : ∀ τ w, Rep τ w zv z) (hb : bytes * c ≤ 281474976710656) (hc : c < 1000000000)
    (hk : ∀ b, b ∉ σ.keys → K (.sc (.slice (some ⟨b, 0, none⟩) c c)) ((b, .cells elem (List.replicate c zv)) :: σ)) : RAW G P (.makeSlice ty (.tmp i) (.tmp i)) env σ K ⟨⟩ := by
  intro ρ w a op ho hS hE
  have h1 := hE i
  rw [hi] at h1
  simp only [Rep] at h1
  obtain ⟨ti, hti, htz⟩ := Option.map_eq_some_iff.1 hin
  simp only [Prod.mk.injEq] at htz
  obtain ⟨g1, g2, g3⟩ := htz
  have e3 : a.eval (.tmp i) = .int kc (c : Nat) := h1
  have hb' : (ti.bytes : Int) * ((c : Nat) : Int) ≤ 281474976710656 := by
    rw [g3, ← Int.natCast_mul]; omega
  have hrun := run_make (P := P) w ty elem ti z hu hti g1 kc kc (c : Nat) (c : Nat) (by omega) (by omega) hb' (by omega)
  simp only [Int.toNat_natCast, g2, Nat.mul_one, hz1] at hrun
  have hnew : (w.alloc (.cells (madeCells #[z] c) elem)).heap[w.heap.size]? = some (.cells (madeCells #[z] c) elem (0, 0)) := heap_alloc_new w _
  have hl := toList_madeCells_one z c
  refine ⟨_, _, .sc (.slice (some ⟨w.heap.size, 0, none⟩) c c), _, by simp [execOp, ho, e3, hrun]; exact rfl, hk _ (fresh_key hS), hS.alloc _ _ ⟨_, hnew, ?_, ?_⟩, Ev.alloc _ _, by simp only [Rep]⟩
  · intro v hv
    rw [hl] at hv
    rw [List.eq_of_mem_replicate hv]; exact hz2
  · rw [hl]
    exact RepL.of_get (by simp) (fun k hk hk' => by simp only [List.getElem_replicate]; exact hz _ _)
end
end Go.Av
