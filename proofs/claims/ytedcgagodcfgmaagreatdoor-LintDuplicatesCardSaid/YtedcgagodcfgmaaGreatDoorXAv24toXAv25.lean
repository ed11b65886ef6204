/-
  ABSTRACT VALUES, 24: maps: make, look up, put, length.
-/
import Derived.Test.YtedcgagodcfgmaaGreatDoorXAv17toXAv23
import Derived.MapKept
import Derived.Carry
section
namespace Go.Av
open Go Go.RowKit
set_option linter.unusedVariables false
set_option linter.unusedSimpArgs false

/-- Keys of type kT, by what they stand for. -/
structure MapK (P : Program) (kT : TypeId) {κ : Type} [DecidableEq κ] (val : κ → Value) : Prop where
  ck : ∀ (em : Bool) (k : κ) (w : World), (Instr.checkKey em 10000 kT (val k)).run P w = .ok () w
  find : ∀ (k : κ) (ks : List κ) (ents : List MapEntry) (w : World), ents.map (·.key) = ks.map val →
    (Instr.findKey kT (val k) ents).run P w = .ok (((ks.zip ents).zipIdx.find? fun q => decide (q.1.1 = k)).map fun q => (q.2, q.1.2.val)) w
  stays : ∀ (k : κ) (w : World), (Instr.keyThatStays (val k) (val k)).run P w = .ok (val k) w

def mgets {κ : Type} [DecidableEq κ] (k : κ) : List (κ × AV) → Option AV
  | [] => none
  | p :: l => if p.1 = k then some p.2 else mgets k l
def mputs {κ : Type} [DecidableEq κ] (k : κ) (x : AV) : List (κ × AV) → List (κ × AV)
  | [] => [(k, x)]
  | p :: l => if p.1 = k then (p.1, x) :: l else p :: mputs k x l
def mrows {κ : Type} (val : κ → Value) (l : List (κ × AV)) : List (Value × AV) := l.map fun p => (val p.1, p.2)

section
variable {G : Glob} {P : Program} {env : Env} {σ : Store} {K : AV → Store → Prop} {κ : Type} [DecidableEq κ] {kT : TypeId} {val : κ → Value}

theorem find_shift {α : Type} (p : α → Bool) : ∀ (l : List α) (n : Nat), ((l.zipIdx (n + 1)).find? fun q => p q.1) = ((l.zipIdx n).find? fun q => p q.1).map fun q => (q.1, q.2 + 1)
  | [], n => rfl
  | a :: l, n => by
    simp only [List.zipIdx_cons, List.find?_cons]
    cases h : p a with
    | true => simp
    | false => simp only []; exact find_shift p l (n + 1)

/-- What is found, and what it stands for. -/
theorem find_rep {τ : Store} {w : World} (k : κ) : ∀ (l : List (κ × AV)) (ents : List MapEntry), ents.map (·.key) = (l.map fun p => val p.1) → RepL τ w (l.map (·.2)) (ents.map (·.val)) →
    (mgets k l = none ∧ (((l.map (·.1)).zip ents).zipIdx.find? fun q => decide (q.1.1 = k)) = none) ∨
    ∃ x i e, mgets k l = some x ∧ (((l.map (·.1)).zip ents).zipIdx.find? fun q => decide (q.1.1 = k)) = some ((k, e), i) ∧ ents[i]? = some e ∧ Rep τ w x e.val ∧ e.key = val k ∧
      (∀ v y, Rep τ w y v → RepL τ w ((mputs k y l).map (·.2)) ((ents.modify i fun e => { e with key := val k, val := v }).map (·.val)) ∧ (ents.modify i fun e => { e with key := val k, val := v }).map (·.key) = (mputs k y l).map fun p => val p.1)
  | [], ents, hk, hr => .inl ⟨rfl, by simp⟩
  | p :: l, [], hk, hr => by simp at hk
  | p :: l, e :: ents, hk, hr => by
    simp only [List.map_cons, List.cons.injEq] at hk
    simp only [List.map_cons, RepL] at hr
    obtain ⟨u, us, h1, h2, h3⟩ := hr
    injection h1 with h1 h1'
    subst h1 h1'
    by_cases hp : p.1 = k
    · right
      subst hp
      refine ⟨p.2, 0, e, by simp [mgets], by simp [List.zipIdx_cons], rfl, h2, hk.1, fun v y hy => ?_⟩
      simp only [mputs, if_true, List.modify_zero_cons, List.map_cons, RepL]
      exact ⟨⟨v, _, rfl, hy, h3⟩, by rw [hk.2]⟩
    · rcases find_rep k l ents hk.2 h3 with ⟨a1, a2⟩ | ⟨x, i, e', a1, a2, a3, a4, a5, a6⟩
      · left
        refine ⟨by simp [mgets, hp, a1], ?_⟩
        simp only [List.map_cons, List.zip_cons_cons, List.zipIdx_cons, List.find?_cons, hp, decide_false]
        have := find_shift (fun q : κ × MapEntry => decide (q.1 = k)) ((l.map (·.1)).zip ents) 0
        rw [Nat.zero_add] at *
        rw [this, a2]; rfl
      · right
        refine ⟨x, i + 1, e', by simp [mgets, hp, a1], ?_, by simpa using a3, a4, a5, fun v y hy => ?_⟩
        · simp only [List.map_cons, List.zip_cons_cons, List.zipIdx_cons, List.find?_cons, hp, decide_false]
          have := find_shift (fun q : κ × MapEntry => decide (q.1 = k)) ((l.map (·.1)).zip ents) 0
          rw [Nat.zero_add] at *
          rw [this, a2]; rfl
        · obtain ⟨b1, b2⟩ := a6 v y hy
          simp only [mputs, if_neg hp, List.modify_succ_cons, List.map_cons, RepL]
          exact ⟨⟨_, _, rfl, h2, b1⟩, by rw [hk.1, b2]⟩

theorem mputs_none {k : κ} {x : AV} : ∀ {l : List (κ × AV)}, mgets k l = none → mputs k x l = l ++ [(k, x)]
  | [], _ => rfl
  | p :: l, h => by
    simp only [mgets] at h
    split at h
    · cases h
    · rename_i hp
      simp only [mputs, if_neg hp, List.cons_append, mputs_none h]

theorem set_sub {b k : Nat} {y z : AObj} : ∀ {σ : Store}, (k, z) ∈ σ.set b y → (k, z) ∈ σ ∨ (k = b ∧ z = y)
  | [], h => by simp [Store.set] at h
  | (k0, x0) :: s, h => by
    simp only [Store.set] at h
    split at h
    · rename_i hk
      rcases List.mem_cons.1 h with h | h
      · cases h; exact .inr ⟨hk, rfl⟩
      · exact .inl (List.mem_cons_of_mem _ h)
    · rcases List.mem_cons.1 h with h | h
      · cases h; exact .inl (by simp)
      · rcases set_sub h with h | h
        · exact .inl (List.mem_cons_of_mem _ h)
        · exact .inr h

theorem Ev.setMap {w : World} {b : Nat} {es es' : List (Value × AV)} {ents ents' : Array MapEntry} {c c' : Nat} (hm : (b, AObj.map es) ∈ σ) (hh : w.heap[b]? = some (.map ents c)) :
    Ev σ w (σ.set b (.map es')) { w with heap := w.heap.setIfInBounds b (.map ents' c') } := by
  have hlt : b < w.heap.size := (Array.getElem?_eq_some_iff.1 hh).1
  have hot : ∀ k, k ≠ b → (w.heap.setIfInBounds b (.map ents' c'))[k]? = w.heap[k]? := fun k hk => by simp [Ne.symm hk]
  have hmut : ∀ o, Mut σ b o := fun o => ⟨_, hm, trivial⟩
  refine ⟨rfl, rfl, rfl, by simp, fun k hk hn => ⟨hot k (fun e => hn (by rw [e]; exact List.mem_map.2 ⟨_, hm, rfl⟩)), fun h => hn (by rwa [set_keys] at h)⟩, ?_, ?_⟩
  · intro k s hs
    by_cases hk : k = b
    · subst hk
      simp [World.shape?, hh] at hs
    · unfold World.shape? at *
      rw [hot k hk]
      exact hs
  · intro a v hv hn
    by_cases hk : a.block = b
    · exact absurd (hk ▸ hmut a.off) hn
    · refine ⟨?_, ?_⟩
      · unfold World.cell? at *
        rw [hot _ hk]
        exact hv
      · rintro ⟨x, hx, hxm⟩
        rcases set_sub hx with hx | ⟨e, _⟩
        · exact hn ⟨x, hx, hxm⟩
        · exact hk e

/-- make. -/
theorem RAW_makeMap {t : TypeId} (hk : ∀ b, b ∉ σ.keys → K (.sc (.map (some b))) ((b, .map []) :: σ)) : RAW G P (.makeMap t none) env σ K ⟨⟩ := by
  intro ρ w a op ho hS hE
  have hnew : (w.alloc (.map #[] 0)).heap[w.heap.size]? = some (.map #[] 0) := heap_alloc_new w _
  refine ⟨.map (some w.heap.size), w.alloc (.map #[] 0), .sc (.map (some w.heap.size)), _, .inl ?_, hk _ (fresh_key hS), hS.alloc _ _ ⟨#[], 0, hnew, rfl, by simp [RepL]⟩, Ev.alloc _ _, by simp only [Rep]⟩
  simp [execOp, ho, run_makeMap]

/-- m[k], and whether it is there. -/
theorem RAW_lookup (M : MapK P kT val) {xT eT : TypeId} {x ix : Operand} {cm : Bool} {b : Nat} {l : List (κ × AV)} {k : κ} {z : Value} {zv : AV} (hx : (SOpd.of x).eval G env = .sc (.map (some b)))
    (hix : ∀ τ w v, Rep τ w ((SOpd.of ix).eval G env) v → v = val k) (hu : P.underlying xT = some (.map kT eT)) (hg : σ.get b = some (.map (mrows val l))) (hz : (P.info? eT).bind (·.zero) = some z) (hzv : ∀ τ w, Rep τ w zv z)
    (hk : K (if cm then .tup [(mgets k l).getD zv, .bool (mgets k l).isSome] else (mgets k l).getD zv) σ) : RAW G P (.lookup xT x ix cm) env σ K ⟨⟩ := by
  refine RAW_quiet _ (fun ρ w a op ho hS hE => ?_) hk
  have h1 := eval_rep hS hE x
  have h2 := hix _ _ _ (eval_rep hS hE ix)
  rw [hx] at h1
  simp only [Rep] at h1
  obtain ⟨ents, c, hh, hke, hve⟩ := hS.obj b _ (List.mem_append.2 (.inl (Store.get_mem hg)))
  have e1 : ents.toList.map (·.key) = l.map fun p => val p.1 := by rw [hke]; simp [mrows]
  have e2 : (mrows val l).map (·.2) = l.map (·.2) := by simp [mrows]
  rw [e2] at hve
  have e3 := M.find k (l.map (·.1)) ents.toList w (by rw [e1]; simp)
  have hz' : (zeroValue eT).run P w = .ok z w := by
    obtain ⟨i, hi, hiz⟩ := Option.bind_eq_some_iff.1 hz
    have hti : (typeInfo eT).run P w = .ok i w := run_typeInfo w hi
    simp [zeroValue, hti, hiz]
  have hck : ∀ em, (Instr.checkKey em 10000 kT (val k)).run P w = .ok () w := fun em => M.ck em k w
  have hgo : (getObj b).run P w = .ok (.map ents c) w := by simp [getObj, Sem.run, hh]
  have hso : ∀ o, (setObj b o).run P w = .ok () { w with heap := w.heap.setIfInBounds b o } := fun o => by simp [setObj, Sem.run, hh]
  rcases find_rep k l ents.toList e1 hve with ⟨a1, a2⟩ | ⟨y, i, e, a1, a2, a3, a4, _, _⟩
  · refine ⟨if cm then .tuple #[z, .bool false] else z, ?_, ?_⟩
    · simp [execOp, ho, h1, h2, Instr.lookup, run_underlying hu, hgo, hck, e3, a2, hz']
    · rw [a1]
      cases cm with
      | false => simpa using hzv _ _
      | true => simp only [if_true, Option.getD_none, Option.isSome_none, Rep]; exact ⟨_, rfl, by simp only [RepL]; exact ⟨_, _, rfl, hzv _ _, _, _, rfl, by simp only [Rep], rfl⟩⟩
  · refine ⟨if cm then .tuple #[e.val, .bool true] else e.val, ?_, ?_⟩
    · simp [execOp, ho, h1, h2, Instr.lookup, run_underlying hu, hgo, hck, e3, a2]
    · rw [a1]
      cases cm with
      | false => simpa using a4
      | true => simp only [if_true, Option.getD_some, Option.isSome_some, Rep]; exact ⟨_, rfl, by simp only [RepL]; exact ⟨_, _, rfl, a4, _, _, rfl, by simp only [Rep], rfl⟩⟩

/-- m[k] = x. -/
theorem RAW_mapUpdate (M : MapK P kT val) {xT eT : TypeId} {x ix y : Operand} {b : Nat} {l : List (κ × AV)} {k : κ} {yv : AV} (hx : (SOpd.of x).eval G env = .sc (.map (some b)))
    (hix : ∀ τ w v, Rep τ w ((SOpd.of ix).eval G env) v → v = val k) (hy : (SOpd.of y).eval G env = yv) (hu : P.underlying xT = some (.map kT eT)) (hg : σ.get b = some (.map (mrows val l)))
    (hk : K undefAV (σ.set b (.map (mrows val (mputs k yv l))))) : RAW G P (.mapUpdate xT x ix y) env σ K ⟨⟩ := by
  intro ρ w a op ho hS hE
  have h1 := eval_rep hS hE x
  have h2 := hix _ _ _ (eval_rep hS hE ix)
  have h3 := eval_rep hS hE y
  rw [hx] at h1
  rw [hy] at h3
  simp only [Rep] at h1
  have hm := Store.get_mem hg
  obtain ⟨ents, c, hh, hke, hve⟩ := hS.obj b _ (List.mem_append.2 (.inl hm))
  have e1 : ents.toList.map (·.key) = l.map fun p => val p.1 := by rw [hke]; simp [mrows]
  have e2 : (mrows val l).map (·.2) = l.map (·.2) := by simp [mrows]
  rw [e2] at hve
  have e3 := M.find k (l.map (·.1)) ents.toList w (by rw [e1]; simp)
  have hlt : b < w.heap.size := (Array.getElem?_eq_some_iff.1 hh).1
  have fin : ∀ (ents' : Array MapEntry) (c' : Nat), ents'.toList.map (·.key) = ((mputs k yv l).map fun p => val p.1) → RepL (σ ++ ρ) w ((mputs k yv l).map (·.2)) (ents'.toList.map (·.val)) →
      Sat G (σ.set b (.map (mrows val (mputs k yv l))) ++ ρ) { w with heap := w.heap.setIfInBounds b (.map ents' c') } ∧ Ev σ w (σ.set b (.map (mrows val (mputs k yv l)))) { w with heap := w.heap.setIfInBounds b (.map ents' c') } := by
    intro ents' c' g1 g2
    have hev : Ev σ w (σ.set b (.map (mrows val (mputs k yv l)))) { w with heap := w.heap.setIfInBounds b (.map ents' c') } := Ev.setMap hm hh
    refine ⟨?_, hev⟩
    have hnd := hS.nodup_left
    refine hS.step hev (by rw [set_keys]; exact hnd) (fun k hk => .inl (by rwa [set_keys] at hk)) ?_
    intro k' q hq
    rcases set_mem hq hnd with ⟨rfl, rfl⟩ | ⟨hne, hq⟩
    · refine ⟨ents', c', by simp [hlt], by rw [g1]; simp [mrows], ?_⟩
      have := RepL.ev hev _ _ g2
      have e4 : (mrows val (mputs k yv l)).map (·.2) = (mputs k yv l).map (·.2) := by simp [mrows]
      rw [e4]; exact this
    · exact (hS.obj k' q (List.mem_append.2 (.inl hq))).keep hev (by simp [Ne.symm hne])
  have hck : ∀ em, (Instr.checkKey em 10000 kT (val k)).run P w = .ok () w := fun em => M.ck em k w
  have hgo : (getObj b).run P w = .ok (.map ents c) w := by simp [getObj, Sem.run, hh]
  have hso : ∀ o, (setObj b o).run P w = .ok () { w with heap := w.heap.setIfInBounds b o } := fun o => by simp [setObj, Sem.run, hh]
  rcases find_rep k l ents.toList e1 hve with ⟨a1, a2⟩ | ⟨u, i, e, a1, a2, a3, a4, a5, a6⟩
  · obtain ⟨s1, s2⟩ := fin (ents.push { key := val k, val := a.eval y, born := c }) (c + 1) (by rw [mputs_none a1]; simp [e1]) (by
      rw [mputs_none a1]
      simp only [List.map_append, List.map_cons, List.map_nil, Array.toList_push]
      exact RepL.append hve (by simp only [RepL]; exact ⟨_, _, rfl, h3, rfl⟩))
    refine ⟨undef, _, undefAV, _, .inr ⟨?_, rfl⟩, hk, s1, s2, ?_⟩
    · simp [execOp, ho, h1, h2, Instr.mapUpdate, run_underlying hu, hgo, hck, e3, a2, hso]
    · exact rep_undef _ _
  · obtain ⟨b1, b2⟩ := a6 (a.eval y) yv h3
    have hst := M.stays k w
    have a3' : ents[i]? = some e := by simpa using a3
    obtain ⟨s1, s2⟩ := fin (ents.modify i fun e => { e with key := val k, val := a.eval y }) c (by simpa [Array.toList_modify] using b2) (by simpa [Array.toList_modify] using b1)
    refine ⟨undef, _, undefAV, _, .inr ⟨?_, rfl⟩, hk, s1, s2, ?_⟩
    · simp [execOp, ho, h1, h2, Instr.mapUpdate, run_underlying hu, hgo, hck, e3, a2, a3', a5, hst, hso]
    · exact rep_undef _ _
end
end Go.Av
end

section
namespace Go.Av
open Go Go.RowKit
set_option linter.unusedVariables false
set_option linter.unusedSimpArgs false

section
variable {P : Program}

theorem run_flat_eq {t : TypeId} {fs : Array Field} {ks : List Nat} (hu : P.underlying t = some (.struct fs)) (hf : flatT P 8 t = some ks) (us vs : Array Value) (r : Bool) (l1 : us.size = ks.length) (l2 : vs.size = ks.length)
    (h1 : eqK ks us.toList vs.toList = some r) (w' : World) : (Op.equalIn 10000 t (.agg us) (.agg vs)).run P w' = .ok r w' := by
  have hst : P.stoodInHeld t = false ∧ ∃ ks', flatFs (flatT P 7) fs.toList 0 = some ks' ∧ ks' = ks := by
    simp only [flatT, hu] at hf
    split at hf
    · cases hf
    rename_i hst
    split at hf
    · rename_i ks' hfs
      split at hf
      · cases hf; exact ⟨by simpa using hst, _, hfs, rfl⟩
      · cases hf
    · cases hf
  obtain ⟨hst, ks', hfs, rfl⟩ := hst
  have ht : P.underlying t = some (.struct (P.fieldsOf t)) := by simp [Program.fieldsOf, hu]
  have hfo : P.fieldsOf t = fs := by simp [Program.fieldsOf, hu]
  rw [run_equalIn_struct w' 9999 t _ _ ht hst, hfo]
  exact run_eq_fields (flatOk P 7) fs.toList 0 ks' hfs 9998 us vs r (by omega) (by omega) (by omega) (by simpa using h1) w'

/-- A flat value may be a key. -/
def CheckF (P : Program) (em : Bool) (d : Nat) : Prop :=
  ∀ (t : TypeId) (ks : List Nat), flatT P d t = some ks → ∀ (D : Nat) (xs : Array Value) (off : Nat), d ≤ D → off + ks.length ≤ xs.size → ∀ w' : World,
    ∃ u, (part t xs off).run P w' = .ok u w' ∧ (Instr.checkKey em D t u).run P w' = .ok () w'

theorem run_check_fields {em : Bool} {d : Nat} (hA : CheckF P em d) (D : Nat) (hD : d ≤ D) (xs : Array Value) (w' : World) : ∀ (fs : List Field) (off : Nat) (ks : List Nat), flatFs (flatT P d) fs off = some ks → off + ks.length ≤ xs.size →
    ∀ f ∈ fs, f.name ≠ "_" ∧ ∃ u, (part f.type xs f.offset).run P w' = .ok u w' ∧ (Instr.checkKey em D f.type u).run P w' = .ok () w'
  | [], _, _, _, _, f, hf => by cases hf
  | g :: fs, off, ks, h, hx, f, hf => by
    simp only [flatFs] at h
    split at h
    · cases h
    rename_i hnm
    simp at hnm
    split at h
    · rename_i k1 h1
      split at h
      · rename_i k2 h2
        cases h
        simp only [List.length_append] at hx
        rcases List.mem_cons.1 hf with rfl | hf
        · exact ⟨hnm.1, hA f.type k1 h1 D xs f.offset hD (by rw [hnm.2]; omega) w'⟩
        · exact run_check_fields hA D hD xs w' fs _ k2 h2 (by omega) f hf
      · cases h
    · cases h

theorem run_check_struct {em : Bool} {t : TypeId} {fs : Array Field} (hu : P.underlying t = some (.struct fs)) (D : Nat) (xs : Array Value) (w' : World)
    (h : ∀ f ∈ fs.toList, f.name ≠ "_" ∧ ∃ u, (part f.type xs f.offset).run P w' = .ok u w' ∧ (Instr.checkKey em D f.type u).run P w' = .ok () w') : (Instr.checkKey em (D + 1) t (.agg xs)).run P w' = .ok () w' := by
  rw [Instr.checkKey]
  simp only [Sem.run_bind, run_underlying hu, Result.andThen_ok]
  rw [← Array.forIn_toList]
  generalize fs.toList = L at h
  induction L with
  | nil => simp
  | cons f L ih =>
    obtain ⟨hn, a, p1, p2⟩ := h f (by simp)
    simp only [List.forIn_cons, Sem.run_bind, hn, ne_eq, not_false_eq_true, if_true, Result.andThen_ok, p1, p2, Sem.run_pure]
    exact ih fun y hy => h y (by simp [hy])

theorem checkF (em : Bool) : ∀ d, CheckF P em d
  | 0, t, ks, h => by simp [flatT] at h
  | d + 1, t, ks, h => by
    intro D xs off hD hx w'
    obtain ⟨D', rfl⟩ : ∃ D', D = D' + 1 := ⟨D - 1, by omega⟩
    have one : ∀ k : TypeDesc, P.underlying t = some k → (k = .bool ∨ (∃ q, k = .int q) ∨ k = .string) → ks.length = 1 → ∃ u, (part t xs off).run P w' = .ok u w' ∧ (Instr.checkKey em (D' + 1) t u).run P w' = .ok () w' := by
      intro k hu hk hl
      refine ⟨xs[off]'(by omega), ?_, ?_⟩
      · unfold part
        rw [Sem.run_bind, run_isAgg hu]
        rcases hk with rfl | ⟨q, rfl⟩ | rfl <;> simp [aggD, show off < xs.size by omega]
      · rw [Instr.checkKey]
        simp only [Sem.run_bind, run_underlying hu, Result.andThen_ok]
        rcases hk with rfl | ⟨q, rfl⟩ | rfl <;> rfl
    simp only [flatT] at h
    split at h
    · rename_i hu
      cases h
      exact one _ hu (.inl rfl) rfl
    · rename_i hu
      cases h
      exact one _ hu (.inr (.inl ⟨_, rfl⟩)) rfl
    · rename_i hu
      cases h
      exact one _ hu (.inr (.inr rfl)) rfl
    · rename_i fs hu
      split at h
      · cases h
      rename_i hst
      split at h
      · rename_i ks' hfs
        split at h
        · rename_i hsz
          cases h
          have hsz' : sizeT P t = some ks.length := by simpa using hsz
          have hag : aggD (.struct fs) = true := rfl
          refine ⟨_, run_part hu hsz' xs off (by simp [hag]) hx w', ?_⟩
          simp only [hag, if_true]
          refine run_check_struct hu D' _ w' (run_check_fields (checkF em d) D' (by omega) _ w' fs.toList 0 ks hfs (by simp; omega))
        · cases h
      · cases h
    · cases h

theorem sameBits_int (n : Nat) (k : IntKind) (a : Int) : Instr.sameBits n (.int k a) (.int k a) = true := by cases n <;> simp [Instr.sameBits]
theorem sameBits_str (n : Nat) (s : ByteArray) : Instr.sameBits n (.string s) (.string s) = true := by
  obtain ⟨d⟩ := s
  have h : ((⟨d⟩ : ByteArray) == ⟨d⟩) = true := by show (d == d) = true; simp
  cases n <;> simp [Instr.sameBits, h]

theorem zip_self {α : Type} : ∀ l : List α, l.zip l = l.map fun x => (x, x)
  | [] => rfl
  | x :: l => by simp [zip_self l]

theorem mapK_flat {t : TypeId} {fs : Array Field} {ks : List Nat} (hu : P.underlying t = some (.struct fs)) (hf : flatT P 8 t = some ks) {κ : Type} [DecidableEq κ] (vals : κ → List Value) (hl : ∀ k, (vals k).length = ks.length)
    (heq : ∀ a b, eqK ks (vals a) (vals b) = some (decide (a = b))) (hs : ∀ k, ∀ v ∈ vals k, ∀ n, Instr.sameBits n v v = true) : MapK P t (fun k => .agg (vals k).toArray) where
  ck em k w := by
    have hst : ∃ ks', flatFs (flatT P 7) fs.toList 0 = some ks' ∧ ks' = ks := by
      simp only [flatT, hu] at hf
      split at hf
      · cases hf
      rename_i hst
      split at hf
      · rename_i ks' hfs
        split at hf
        · cases hf; exact ⟨_, hfs, rfl⟩
        · cases hf
      · cases hf
    obtain ⟨ks', hfs, rfl⟩ := hst
    exact run_check_struct hu 9999 _ w (run_check_fields (checkF em 7) 9999 (by omega) _ w fs.toList 0 ks' hfs (by simp [hl]))
  find k l ents w he := by
    have hq : ∀ b : κ, (Op.equal t (.agg (vals k).toArray) (.agg (vals b).toArray)).run P w = .ok (decide (k = b)) w := fun b =>
      run_flat_eq hu hf _ _ _ (by simp [hl]) (by simp [hl]) (by simpa using heq k b) w
    have main : ∀ (l : List κ) (ents : List MapEntry) (i : Nat), ents.map (·.key) = l.map (fun k => Value.agg (vals k).toArray) →
        (Instr.findAsking t (.agg (vals k).toArray) ents i).run P w = .ok ((((l.zip ents).zipIdx i).find? fun q => decide (q.1.1 = k)).map fun q => (q.2, q.1.2.val)) w := by
      intro l
      induction l with
      | nil =>
        intro ents i he
        cases ents with
        | nil => simp [Instr.findAsking]
        | cons e es => simp at he
      | cons b l ih =>
        intro ents i he
        cases ents with
        | nil => simp at he
        | cons e es =>
          simp only [List.map_cons, List.cons.injEq] at he
          simp only [Instr.findAsking, Sem.run_bind, he.1, hq b, Result.andThen_ok, List.zip_cons_cons, List.zipIdx_cons, List.find?_cons]
          by_cases hb : k = b
          · subst hb; simp
          · have : decide (b = k) = false := by simp; exact fun e => hb e.symm
            simp only [decide_eq_false hb, this, Bool.false_eq_true, if_false]
            exact ih es (i + 1) he.2
    have h2 : (Instr.findKey t (.agg (vals k).toArray) ents).run P w = (Instr.findAsking t (.agg (vals k).toArray) ents 0).run P w := by
      cases ents with
      | nil => simp [Instr.findKey, run_underlying hu, Instr.findNow, Instr.findAsking]
      | cons e es => simp [Instr.findKey, run_underlying hu, Instr.findNow, Instr.sameNow]
    rw [h2]
    exact main l ents 0 he
  stays k w := by
    have h : Instr.sameBits 10000 (.agg (vals k).toArray) (.agg (vals k).toArray) = true := by
      simp only [Instr.sameBits, beq_self_eq_true, Bool.true_and, zip_self, List.all_map, List.all_eq_true, Function.comp]
      intro v hv
      exact hs k v (by simpa using hv) _
    simp [Instr.keyThatStays, h]

/-- len of a map. -/
theorem RAW_lenMap {G : Glob} {env : Env} {σ : Store} {K : AV → Store → Prop} {x : Operand} {tx kT eT : TypeId} {b : Nat} {es : List (Value × AV)} (hx : (SOpd.of x).eval G env = .sc (.map (some b))) (hu : P.underlying tx = some (.map kT eT)) (hg : σ.get b = some (.map es))
    (hk : K (.int .i64 es.length) σ) : RAW G P (.call (.mk (.builtin .len) #[x] #[tx])) env σ K ⟨⟩ := by
  refine RAW_quiet _ (fun ρ w a op ho hS hE => ?_) hk
  have h1 := eval_rep hS hE x
  rw [hx] at h1
  simp only [Rep] at h1
  obtain ⟨ents, c, hh, hke, hve⟩ := hS.obj b _ (List.mem_append.2 (.inl (Store.get_mem hg)))
  have hl : ents.size = es.length := by have := congrArg List.length hke; simpa using this
  refine ⟨.int .i64 es.length, ?_, by simp only [Rep]⟩
  have hgo : (getObj b).run P w = .ok (.map ents c) w := by simp [getObj, Sem.run, hh]
  simp [execOp, ho, resolve, invoke, builtin, h1, Builtin.len_, run_underlying hu, hgo, hl]
  rfl
end
end Go.Av
end
