/-
  ABSTRACT VALUES, 25: keys that are flat structs.
-/
import Derived.Test.YtcecmifknojgeaaGreatDoorXAv19toXAv24
section
namespace Go.Av
open Go Go.RowKit
set_option linter.unusedVariables false
set_option linter.unusedSimpArgs false

section
variable {P : Program}

theorem run_flat_eq {t : TypeId} {fs : Array Field} {ks : List Nat} (hu : P.underlying t = some (.struct fs)) (hf : flatT P 8 t = some ks) (us vs : Array Value) (r : Bool) (l1 : us.size = ks.length) (l2 : vs.size = ks.length)
    (h1 : eqK ks us.toList vs.toList = some r) (w' : World) : (Op.equalIn 10000 t (.agg us) (.agg vs)).run P w' = .ok r w' := by
  have hst : P.stoodInHeld t = false ∧ ∃ ks', flatFs (flatT P 7) fs.toList 0 = some ks' ∧ ks' = ks := by
    simp only [flatT, hu] at hf
    split at hf
    · cases hf
    rename_i hst
    split at hf
    · rename_i ks' hfs
      split at hf
      · cases hf; exact ⟨by simpa using hst, _, hfs, rfl⟩
      · cases hf
    · cases hf
  obtain ⟨hst, ks', hfs, rfl⟩ := hst
  have ht : P.underlying t = some (.struct (P.fieldsOf t)) := by simp [Program.fieldsOf, hu]
  have hfo : P.fieldsOf t = fs := by simp [Program.fieldsOf, hu]
  rw [run_equalIn_struct w' 9999 t _ _ ht hst, hfo]
  exact run_eq_fields (flatOk P 7) fs.toList 0 ks' hfs 9998 us vs r (by omega) (by omega) (by omega) (by simpa using h1) w'

def CheckF (P : Program) (em : Bool) (d : Nat) : Prop :=
  ∀ (t : TypeId) (ks : List Nat), flatT P d t = some ks → ∀ (D : Nat) (xs : Array Value) (off : Nat), d ≤ D → off + ks.length ≤ xs.size → ∀ w' : World,
    ∃ u, (part t xs off).run P w' = .ok u w' ∧ (Instr.checkKey em D t u).run P w' = .ok () w'

theorem run_check_fields {em : Bool} {d : Nat} (hA : CheckF P em d) (D : Nat) (hD : d ≤ D) (xs : Array Value) (w' : World) : ∀ (fs : List Field) (off : Nat) (ks : List Nat), flatFs (flatT P d) fs off = some ks → off + ks.length ≤ xs.size →
    ∀ f ∈ fs, f.name ≠ "_" ∧ ∃ u, (part f.type xs f.offset).run P w' = .ok u w' ∧ (Instr.checkKey em D f.type u).run P w' = .ok () w'
  | [], _, _, _, _, f, hf => by cases hf
  | g :: fs, off, ks, h, hx, f, hf => by
    simp only [flatFs] at h
    split at h
    · cases h
    rename_i hnm
    simp at hnm
    split at h
    · rename_i k1 h1
      split at h
      · rename_i k2 h2
        cases h
        simp only [List.length_append] at hx
        rcases List.mem_cons.1 hf with rfl | hf
        · exact ⟨hnm.1, hA f.type k1 h1 D xs f.offset hD (by rw [hnm.2]; omega) w'⟩
        · exact run_check_fields hA D hD xs w' fs _ k2 h2 (by omega) f hf
      · cases h
    · cases h

theorem run_check_struct {em : Bool} {t : TypeId} {fs : Array Field} (hu : P.underlying t = some (.struct fs)) (D : Nat) (xs : Array Value) (w' : World)
    (h : ∀ f ∈ fs.toList, f.name ≠ "_" ∧ ∃ u, (part f.type xs f.offset).run P w' = .ok u w' ∧ (Instr.checkKey em D f.type u).run P w' = .ok () w') : (Instr.checkKey em (D + 1) t (.agg xs)).run P w' = .ok () w' := by
  rw [Instr.checkKey]
  simp only [Sem.run_bind, run_underlying hu, Result.andThen_ok]
  rw [← Array.forIn_toList]
  generalize fs.toList = L at h
  induction L with
  | nil => simp
  | cons f L ih =>
    obtain ⟨hn, a, p1, p2⟩ := h f (by simp)
    simp only [List.forIn_cons, Sem.run_bind, hn, ne_eq, not_false_eq_true, if_true, Result.andThen_ok, p1, p2, Sem.run_pure]
    exact ih fun y hy => h y (by simp [hy])

theorem checkF (em : Bool) : ∀ d, CheckF P em d
  | 0, t, ks, h => by simp [flatT] at h
  | d + 1, t, ks, h => by
    intro D xs off hD hx w'
    obtain ⟨D', rfl⟩ : ∃ D', D = D' + 1 := ⟨D - 1, by omega⟩
    have one : ∀ k : TypeDesc, P.underlying t = some k → (k = .bool ∨ (∃ q, k = .int q) ∨ k = .string) → ks.length = 1 → ∃ u, (part t xs off).run P w' = .ok u w' ∧ (Instr.checkKey em (D' + 1) t u).run P w' = .ok () w' := by
      intro k hu hk hl
      refine ⟨xs[off]'(by omega), ?_, ?_⟩
      · unfold part
        rw [Sem.run_bind, run_isAgg hu]
        rcases hk with rfl | ⟨q, rfl⟩ | rfl <;> simp [aggD, show off < xs.size by omega]
      · rw [Instr.checkKey]
        simp only [Sem.run_bind, run_underlying hu, Result.andThen_ok]
        rcases hk with rfl | ⟨q, rfl⟩ | rfl <;> rfl
    simp only [flatT] at h
    split at h
    · rename_i hu
      cases h
      exact one _ hu (.inl rfl) rfl
    · rename_i hu
      cases h
      exact one _ hu (.inr (.inl ⟨_, rfl⟩)) rfl
    · rename_i hu
      cases h
      exact one _ hu (.inr (.inr rfl)) rfl
    · rename_i fs hu
      split at h
      · cases h
      rename_i hst
      split at h
      · rename_i ks' hfs
        split at h
        · rename_i hsz
          cases h
          have hsz' : sizeT P t = some ks.length := by simpa using hsz
          have hag : aggD (.struct fs) = true := rfl
          refine ⟨_, run_part hu hsz' xs off (by simp [hag]) hx w', ?_⟩
          simp only [hag, if_true]
          refine run_check_struct hu D' _ w' (run_check_fields (checkF em d) D' (by omega) _ w' fs.toList 0 ks hfs (by simp; omega))
        · cases h
      · cases h
    · cases h

theorem sameBits_int (n : Nat) (k : IntKind) (a : Int) : Instr.sameBits n (.int k a) (.int k a) = true := by cases n <;> simp [Instr.sameBits]
theorem sameBits_str (n : Nat) (s : ByteArray) : Instr.sameBits n (.string s) (.string s) = true := by
  obtain ⟨d⟩ := s
  have h : ((⟨d⟩ : ByteArray) == ⟨d⟩) = true := by show (d == d) = true; simp
  cases n <;> simp [Instr.sameBits, h]

theorem zip_self {α : Type} : ∀ l : List α, l.zip l = l.map fun x => (x, x)
  | [] => rfl
  | x :: l => by simp [zip_self l]

theorem mapK_flat {t : TypeId} {fs : Array Field} {ks : List Nat} (hu : P.underlying t = some (.struct fs)) (hf : flatT P 8 t = some ks) {κ : Type} [DecidableEq κ] (vals : κ → List Value) (hl : ∀ k, (vals k).length = ks.length)
    (heq : ∀ a b, eqK ks (vals a) (vals b) = some (decide (a = b))) (hs : ∀ k, ∀ v ∈ vals k, ∀ n, Instr.sameBits n v v = true) : MapK P t (fun k => .agg (vals k).toArray) where
  ck em k w := by
    have hst : ∃ ks', flatFs (flatT P 7) fs.toList 0 = some ks' ∧ ks' = ks := by
      simp only [flatT, hu] at hf
      split at hf
      · cases hf
      rename_i hst
      split at hf
      · rename_i ks' hfs
        split at hf
        · cases hf; exact ⟨_, hfs, rfl⟩
        · cases hf
      · cases hf
    obtain ⟨ks', hfs, rfl⟩ := hst
    exact run_check_struct hu 9999 _ w (run_check_fields (checkF em 7) 9999 (by omega) _ w fs.toList 0 ks' hfs (by simp [hl]))
  find k l ents w he := by
    have hq : ∀ b : κ, (Op.equal t (.agg (vals k).toArray) (.agg (vals b).toArray)).run P w = .ok (decide (k = b)) w := fun b =>
      run_flat_eq hu hf _ _ _ (by simp [hl]) (by simp [hl]) (by simpa using heq k b) w
    have main : ∀ (l : List κ) (ents : List MapEntry) (i : Nat), ents.map (·.key) = l.map (fun k => Value.agg (vals k).toArray) →
        (Instr.findAsking t (.agg (vals k).toArray) ents i).run P w = .ok ((((l.zip ents).zipIdx i).find? fun q => decide (q.1.1 = k)).map fun q => (q.2, q.1.2.val)) w := by
      intro l
      induction l with
      | nil =>
        intro ents i he
        cases ents with
        | nil => simp [Instr.findAsking]
        | cons e es => simp at he
      | cons b l ih =>
        intro ents i he
        cases ents with
        | nil => simp at he
        | cons e es =>
          simp only [List.map_cons, List.cons.injEq] at he
          simp only [Instr.findAsking, Sem.run_bind, he.1, hq b, Result.andThen_ok, List.zip_cons_cons, List.zipIdx_cons, List.find?_cons]
          by_cases hb : k = b
          · subst hb; simp
          · have : decide (b = k) = false := by simp; exact fun e => hb e.symm
            simp only [decide_eq_false hb, this, Bool.false_eq_true, if_false]
            exact ih es (i + 1) he.2
    have h2 : (Instr.findKey t (.agg (vals k).toArray) ents).run P w = (Instr.findAsking t (.agg (vals k).toArray) ents 0).run P w := by
      cases ents with
      | nil => simp [Instr.findKey, run_underlying hu, Instr.findNow, Instr.findAsking]
      | cons e es => simp [Instr.findKey, run_underlying hu, Instr.findNow, Instr.sameNow]
    rw [h2]
    exact main l ents 0 he
  stays k w := by
    have h : Instr.sameBits 10000 (.agg (vals k).toArray) (.agg (vals k).toArray) = true := by
      simp only [Instr.sameBits, beq_self_eq_true, Bool.true_and, zip_self, List.all_map, List.all_eq_true, Function.comp]
      intro v hv
      exact hs k v (by simpa using hv) _
    simp [Instr.keyThatStays, h]

theorem RAW_lenMap {G : Glob} {env : Env} {σ : Store} {K : AV → Store → Prop} {x : Operand} {tx kT eT : TypeId} {b : Nat} {es : List (Value × AV)} (hx : (SOpd.of x).eval G env = .sc (.map (some b))) (hu : P.underlying tx = some (.map kT eT)) (hg : σ.get b = some (.map es))
    (hk : K (.int .i64 es.length) σ) : RAW G P (.call (.mk (.builtin .len) #[x] #[tx])) env σ K ⟨⟩ := by
  refine RAW_quiet _ (fun ρ w a op ho hS hE => ?_) hk
  have h1 := eval_rep hS hE x
  rw [hx] at h1
  simp only [Rep] at h1
  obtain ⟨ents, c, hh, hke, hve⟩ := hS.obj b _ (List.mem_append.2 (.inl (Store.get_mem hg)))
  have hl : ents.size = es.length := by have := congrArg List.length hke; simpa using this
  refine ⟨.int .i64 es.length, ?_, by simp only [Rep]⟩
  have hgo : (getObj b).run P w = .ok (.map ents c) w := by simp [getObj, Sem.run, hh]
  simp [execOp, ho, resolve, invoke, builtin, h1, Builtin.len_, run_underlying hu, hgo, hl]
  rfl
end
end Go.Av
end

section
namespace Go.Av
open Go Go.RowKit
set_option linter.unusedVariables false
set_option linter.unusedSimpArgs false

def emptyS (v : Value) : Prop := v = .slice none 0 0 ∨ ∃ a, v = .slice (some a) 0 0

theorem set_get_mem {b : Nat} {x y : AObj} : ∀ {σ : Store}, b ∈ σ.keys → (b, y) ∈ σ.set b y
  | [], h => by simp [Store.keys] at h
  | (k, z) :: σ, h => by
    simp only [Store.set]
    by_cases hk : k = b
    · rw [if_pos hk, hk]; simp
    · rw [if_neg hk]
      simp only [Store.keys, List.map_cons, List.mem_cons] at h
      rcases h with h | h
      · exact absurd h.symm hk
      · exact List.mem_cons_of_mem _ (set_get_mem (x := x) h)
theorem set_other_mem {b : Nat} {y : AObj} : ∀ {σ : Store} {q : Nat × AObj}, q ∈ σ → q.1 ≠ b → q ∈ σ.set b y
  | [], q, h, _ => by cases h
  | (k, z) :: σ, q, h, hq => by
    simp only [Store.set]
    rcases List.mem_cons.1 h with rfl | h
    · rw [if_neg hq]; simp
    · split
      · exact List.mem_cons_of_mem _ h
      · exact List.mem_cons_of_mem _ (set_other_mem h hq)
theorem set_subN {σ : Store} {b : Nat} {x : AObj} (hb : b ∈ σ.keys) : SubN ((b, x) :: σ.erase (some b)) (σ.set b x) := by
  refine ⟨fun q hq => ?_, fun hn => ?_⟩
  · rcases List.mem_cons.1 hq with rfl | hq
    · exact set_get_mem (x := x) hb
    · have h2 := List.mem_filter.1 hq
      exact set_other_mem h2.1 (by simpa using h2.2)
  · rw [set_keys] at hn
    simp only [Store.keys, List.map_cons, List.nodup_cons]
    exact ⟨erase_not_mem σ b, (erase_sub σ (some b)).2 hn⟩

def WS (σ : Store) (e : TypeId) (sz : Nat) (xv : AV) (rows : List (List AV)) (g : Option Nat) : Prop :=
  (rows = [] ∧ g = none ∧ (xv = .nil ∨ ∃ v, xv = .sc v ∧ emptyS v)) ∨
  ∃ b cap pad, g = some b ∧ xv = .sc (.slice (some ⟨b, 0, none⟩) rows.length cap) ∧ σ.get b = some (.cells e (rows.flatten ++ pad)) ∧ (∀ r ∈ rows, r.length = sz) ∧ (rows.flatten ++ pad).length = cap * sz ∧ rows.length ≤ cap ∧ cap ≤ maxLen

section
variable {G : Glob} {P : Program} {σ ρ : Store} {w : World} {env : Env} {K : AV → Store → Prop}

theorem RepL.any : ∀ (τ : Store) (w : World) (us : List Value), RepL τ w (List.replicate us.length .any) us
  | _, _, [] => by simp [RepL]
  | τ, w, u :: us => by simp only [List.length_cons, List.replicate_succ, RepL]; exact ⟨u, us, rfl, by simp only [Rep], RepL.any τ w us⟩

theorem RAW_appendW {t tx ty e e' : TypeId} {i : TypeInfo} {z : List AV} {x y : Operand} {rows ys : List (List AV)} {g : Option Nat} {xv : AV}
    (hu : P.underlying t = some (.slice e)) (hk : P.underlying tx = some (.slice e')) (hi : P.info? e = some i) (hz : zeroT P e = some z) (hzl : z.length = i.size) (hpos : i.size ≠ 0) (hb0 : i.bytes ≠ 0)
    (hxv : (SOpd.of x).eval G env = xv) (hW : WS σ e i.size xv rows g) (hys : srcX i.size ((SOpd.of y).eval G env) fun l => l = ys) (hbytes : (rows.length + ys.length) * i.bytes ≤ 140737488355328)
    (hk0 : rows = [] → ys = [] → K xv σ)
    (hk1 : ∀ b cap pad, b ∉ (σ.erase g).keys → (rows ++ ys).length ≤ cap → cap ≤ maxLen → (∀ r ∈ rows ++ ys, r.length = i.size) → ((rows ++ ys).flatten ++ pad).length = cap * i.size →
      K (.sc (.slice (some ⟨b, 0, none⟩) (rows ++ ys).length cap)) ((b, .cells e ((rows ++ ys).flatten ++ pad)) :: σ.erase g)) : RAW G P (.call (.mk (.builtin .append) #[x, y] #[t, tx])) env σ K ⟨⟩ := by
  intro ρ w a o ho hS hE
  have hx := eval_rep (G := G) hS hE x
  have hy := eval_rep (G := G) hS hE y
  rw [hxv] at hx
  obtain ⟨i', zv, hi', hzv, hzr, hz1⟩ := zeroT_rep (τ := σ ++ ρ) (w := w) hz
  rw [hi] at hi'; cases hi'
  have hzs : zv.cells.size = i.size := by have := hzr.length; simp at this; omega
  have hop : ∀ {v : Value} {w' : World}, (Builtin.append_ #[t, tx] o.type #[a.eval x, a.eval y]).run P w = .ok v w' → (execOp a.eval o).run P w = .ok (.value v) w' := by
    intro v w' hr
    simp [execOp, ho, resolve, invoke, builtin, hr]
  obtain ⟨ys', news, rfl, hsrc, hrn, hyl⟩ := srcX_ok hk hy hys
  have hnl := hsrc.newsLen
  have hlen63 : rows.length + ys'.length ≤ maxLen := by
    have := Nat.le_mul_of_pos_right (rows.length + ys'.length) (Nat.pos_of_ne_zero hb0)
    unfold maxLen; omega
  have hlen : (rows ++ ys').length = rows.length + ys'.length := by simp
  have grow : ∀ (base : Option Addr) (cap : Nat) (olds : List Value), a.eval x = .slice base rows.length cap → olds.length = rows.length * i.size → RepL (σ ++ ρ) w rows.flatten olds → (∀ v ∈ olds, v.oneCell' = true) → (∀ r ∈ rows, r.length = i.size) →
      (Builtin.firstCells i.size rows.length (.slice base rows.length cap)).run P w.drew = .ok olds.toArray w.drew → cap < rows.length + ys'.length →
      ∃ v w' r σ', ((execOp a.eval o).run P w = .ok (.value v) w' ∨ (execOp a.eval o).run P w = .ok .skip w' ∧ v = undef) ∧ K r σ' ∧ Sat G (σ' ++ ρ) w' ∧ Ev σ w σ' w' ∧ Rep (σ' ++ ρ) w' r v := by
    intro base cap olds hv hol hro ho1 hrl hfc hlt
    have hr := run_append_grow_src (P := P) w t tx o.type e i zv hu hi hzv base rows.length cap olds hfc (a.eval y) ys'.length news hsrc hlt (by unfold maxLen at hlen63; omega) (growslice_fits hlt hbytes)
    rw [← hv] at hr
    have hge := grownCap_ge w (rows.length + ys'.length) cap e
    have hcm := grownCap_le_maxLen w (rows.length + ys'.length) cap e hlen63
    generalize grownCap w (rows.length + ys'.length) cap e = c2 at hr hge hcm
    let C : Array Value := (olds ++ news).toArray ++ Builtin.zeroCells zv.cells (c2 - (rows.length + ys'.length))
    have hCs : C.size = c2 * i.size := by
      simp only [C, Array.size_append, List.size_toArray, List.length_append, hol, hnl, size_zeroCells, hzs, ← Nat.add_mul]
      congr 1; omega
    have hBe : w.heap.size ∉ (σ.erase g).keys := fun hm => Nat.lt_irrefl _ (hS.lt_left (keys_sub (erase_sub σ g).1 hm))
    let Z := (Builtin.zeroCells zv.cells (c2 - (rows.length + ys'.length))).toList
    have hrl2 : ∀ r ∈ rows ++ ys', r.length = i.size := fun r hr => by rcases List.mem_append.1 hr with hr | hr <;> first | exact hrl r hr | exact hyl r hr
    have hfl := flat_len _ hrl2
    have hk2 := hk1 w.heap.size c2 (List.replicate Z.length .any) hBe (by rw [hlen]; exact hge) hcm hrl2 (by
      have : Z.length = (c2 - (rows.length + ys'.length)) * i.size := by simp [Z, size_zeroCells, hzs]
      rw [List.length_append, hfl, List.length_replicate, this, hlen, ← Nat.add_mul]
      congr 1; omega)
    have s1 : Sat G (σ.erase g ++ ρ) w := hS.subN (erase_sub σ g)
    have s2 : Sat G (σ.erase g ++ ρ) w.drew := s1.step Ev.drew s1.nodup_left (fun b hb => .inl hb) (fun b q hq => (s1.obj b q (List.mem_append.2 (.inl hq))).keep Ev.drew rfl)
    have ev1 : Ev σ w (σ.erase g) w.drew := (Ev.of_sub (erase_sub σ g).1 w).trans Ev.drew
    have ev2 : Ev (σ.erase g) w.drew ((w.heap.size, .cells e ((rows ++ ys').flatten ++ List.replicate Z.length .any)) :: σ.erase g) (w.drew.alloc (.cells C e)) := Ev.alloc (σ := σ.erase g) (w := w.drew) _ _
    have ev := ev1.trans ev2
    have s3 := s2.alloc (.cells C e) (.cells e ((rows ++ ys').flatten ++ List.replicate Z.length .any)) ⟨C, heap_alloc_new w.drew _, by
        intro v hv
        simp only [C, Array.toList_append, List.mem_append] at hv
        rcases hv with (hv | hv) | hv
        · exact ho1 v hv
        · exact hsrc.one v hv
        · exact hz1 _ (zeroCells_mem hv), by
        have h9 := RepL.append (RepL.ev ev _ _ hro) (RepL.ev ev _ _ hrn)
        rw [← List.flatten_append] at h9
        have h10 := RepL.append h9 (RepL.any _ _ Z)
        rw [show C.toList = olds ++ news ++ Z by simp only [C, Z, Array.toList_append]]
        exact h10⟩
    exact ⟨_, _, _, _, .inl (hop hr), hk2, s3, ev, by simp only [Rep]; rw [hlen]⟩
  rcases hW with ⟨rfl, rfl, hW⟩ | ⟨b, cap, pad, rfl, rfl, hg, hrl, hfl, hle, hcmx⟩
  · by_cases hm : ys'.length = 0
    · have hy0 : ys' = [] := List.eq_nil_of_length_eq_zero hm
      subst hy0
      have hr : (Builtin.append_ #[t, tx] o.type #[a.eval x, a.eval y]).run P w = .ok (a.eval x) w := by
        rcases hW with rfl | ⟨v, rfl, rfl | ⟨ad, rfl⟩⟩
        · simp only [Rep] at hx
          rw [hx]; exact run_append_none hu hi hsrc
        · simp only [Rep] at hx
          rw [hx]; exact run_append_none hu hi hsrc
        · simp only [Rep] at hx
          rw [hx]
          have hn0 : news = [] := List.eq_nil_of_length_eq_zero (by rw [hnl]; simp)
          subst hn0
          have hcl := hsrc.cells
          simp only [List.length_nil] at hcl
          rcases hsrc.kind with ⟨e'', hk'⟩ | hk' <;> simp [Builtin.append_, run_underlying hu, run_underlying hk', sizeOf, typeInfo, hi, hsrc.len, hcl, storeCells]
      exact ⟨_, _, _, _, .inl (hop hr), hk0 rfl rfl, hS, Ev.refl σ w, hx⟩
    · have hbase : ∃ base, a.eval x = .slice base 0 0 := by
        rcases hW with rfl | ⟨v, rfl, rfl | ⟨ad, rfl⟩⟩ <;> simp only [Rep] at hx <;> exact ⟨_, hx⟩
      obtain ⟨base, hbase⟩ := hbase
      refine grow base 0 [] hbase (by simp) (by simp [RepL]) (by simp) (by simp) ?_ (by simp; omega)
      cases base with
      | none => simp [Builtin.firstCells]
      | some ad => exact run_firstCells_some w.drew i.size 0 ad 0 0 [] (by simp) (by simp)
  · simp only [Rep] at hx
    have hm := Store.get_mem hg
    have hkey : b ∈ σ.keys := List.mem_map.2 ⟨_, hm, rfl⟩
    have hflat := flat_len _ hrl
    by_cases hroom : rows.length + ys'.length ≤ cap
    · have hfit : rows.length * i.size + ys'.flatten.length ≤ (rows.flatten ++ pad).length := by
        rw [hfl, flat_len _ hyl, ← Nat.add_mul]; exact Nat.mul_le_mul_right _ hroom
      obtain ⟨vs, hh, hsz, hev, hS'⟩ := hS.setRow hg hrn hsrc.one (off := rows.length * i.size) hfit
      have hr := run_append_room_row (P := P) (ty := o.type) hu hi hh hsrc hroom (by rw [hsz, hfl, hnl, ← Nat.add_mul]; exact Nat.mul_le_mul_right _ hroom)
      rw [← hx] at hr
      have e1 : splice (rows.flatten ++ pad) (rows.length * i.size) ys'.flatten = (rows ++ ys').flatten ++ pad.drop ys'.flatten.length := by
        rw [splice_eq _ _ _ hfit, ← hflat, List.take_append_of_le_length (Nat.le_refl _), List.take_length, List.flatten_append]
        congr 1
        rw [List.drop_append]
        simp
      rw [e1] at hev hS'
      have hss := set_subN (x := AObj.cells e ((rows ++ ys').flatten ++ pad.drop ys'.flatten.length)) hkey
      refine ⟨_, _, _, _, .inl (hop hr), hk1 b cap (pad.drop ys'.flatten.length) (erase_not_mem σ b) (by rw [hlen]; exact hroom) hcmx (fun r hr => by rcases List.mem_append.1 hr with hr | hr <;> first | exact hrl r hr | exact hyl r hr) ?_, hS'.subN hss, hev.trans (Ev.of_sub hss.1 _), by simp only [Rep]; rw [hlen]⟩
      · rw [List.flatten_append, List.length_append, List.length_append, List.length_drop]
        rw [List.length_append] at hfl hfit
        omega
    · obtain ⟨vs, hh, hone, hrep⟩ := hS.obj b _ (List.mem_append.2 (.inl hm))
      have hvl := hrep.length
      have hrt := RepL.take rows.flatten.length hrep
      rw [List.take_append_of_le_length (Nat.le_refl _), List.take_length] at hrt
      have hol : (vs.toList.take rows.flatten.length).length = rows.length * i.size := by rw [List.length_take, hvl, ← hflat, List.length_append]; omega
      refine grow (some ⟨b, 0, none⟩) cap (vs.toList.take rows.flatten.length) hx hol hrt (fun v hv => hone v (List.mem_of_mem_take hv)) hrl (run_firstCells_some w.drew i.size rows.length _ _ _ _ hol ?_) (by omega)
      intro j v hj
      rw [add_lit, Nat.zero_add]
      have hj2 : vs.toList[j]? = some v := by rw [List.getElem?_take] at hj; split at hj; exact hj; cases hj
      have : w.drew.cell? ⟨b, j, none⟩ = w.cell? ⟨b, j, none⟩ := rfl
      rw [this, cell_of_row w b j vs e (0, 0) hh]
      simpa using hj2

theorem RAW_frameN {op : Op} {t : Tag K} (σf σr : Store) (hs : SubN (σf ++ σr) σ) (h : RAW G P op env σf (fun r σ' => (σ' ++ σr : Store).keys.Nodup → K r (σ' ++ σr)) ⟨⟩) : RAW G P op env σ K t := by
  intro ρ w a o ho hS hE
  have hS2 : Sat G (σf ++ (σr ++ ρ)) w := by have := hS.subN hs; rwa [List.append_assoc] at this
  obtain ⟨v, w', r, σ', h1, h2, h3, h4, h5⟩ := h (σr ++ ρ) w a o ho hS2 (fun j => by
    have := Rep.ev (Ev.of_sub hs.1 w) _ _ (hE j)
    rwa [List.append_assoc] at this)
  have h3' : Sat G ((σ' ++ σr) ++ ρ) w' := by rwa [List.append_assoc]
  exact ⟨v, w', r, σ' ++ σr, h1, h2 h3'.nodup_left, h3', h4.frame hs.1, by rwa [List.append_assoc]⟩

theorem RAW_buildS0 {t e : TypeId} {n : Nat} (hu : P.underlying t = some (.slice e)) (hn : (P.info? e).map (·.size) = some n) (hk : ∀ v, emptyS v → K (.sc v) σ) : RAW G P (.buildSlice t 0 #[]) env σ K ⟨⟩ := by
  intro ρ w a o ho hS hE
  obtain ⟨i, hi, _⟩ := Option.map_eq_some_iff.1 hn
  have hev : Ev σ w σ (w.alloc (.cells #[] e)) := Ev.alloc0 _
  have hlt : ∀ b x, (b, x) ∈ σ ++ ρ → b < w.heap.size := fun b x hx => (hS.obj b x hx).lt
  refine ⟨.slice (some ⟨w.heap.size, 0, none⟩) 0 0, w.alloc (.cells #[] e), .sc (.slice (some ⟨w.heap.size, 0, none⟩) 0 0), σ, .inl ?_, hk _ (.inr ⟨_, rfl⟩), ?_, hev, by simp only [Rep]⟩
  · have e0 : (Array.range 0).map (fun _ => (default : Value)) = #[] := by apply Array.ext'; simp
    simp [execOp, ho, Instr.buildSlice, run_underlying hu, sizeOf, typeInfo, hi, Instr.fill, newRow, e0]
  · exact hS.step hev hS.nodup_left (fun b hb => .inl hb) (fun b x hx => (hS.obj b x (List.mem_append.2 (.inl hx))).keep hev (Below.heap_alloc _ _ b (hlt b x (List.mem_append.2 (.inl hx)))))

/-! ### from now on no one writes -/

def OpenS (e : TypeId) (sz : Nat) (rows : List (List AV)) (base : Option Addr) (cap : Nat) (σ : Store) : Prop :=
  (rows = [] ∧ cap = 0 ∧ σ = []) ∨
  ∃ b pad, base = some ⟨b, 0, none⟩ ∧ σ = [(b, .cells e (rows.flatten ++ pad))] ∧ rows.length ≤ cap ∧ cap ≤ maxLen ∧ (∀ r ∈ rows, r.length = sz) ∧ (rows.flatten ++ pad).length = cap * sz
def OpenL (e : TypeId) (sz : Nat) (rows : List (List AV)) (v : AV) (σ : Store) : Prop := ∃ base cap, v = .sc (.slice base rows.length cap) ∧ OpenS e sz rows base cap σ

theorem OpenS.freeze {e : TypeId} {sz : Nat} {rows : List (List AV)} {base : Option Addr} {cap : Nat} {σh σ' : Store} {u : Value} (h : OpenS e sz rows base cap σh) (hS : Sat G (σ' ++ ρ) w) (hsub : Sub σh σ') (hr : u = .slice base rows.length cap) : Rep ρ w (.lst sz rows) u := by
  rcases h with ⟨rfl, rfl, rfl⟩ | ⟨b, pad, rfl, rfl, hle, hcm, hrl, hlen⟩
  · subst hr
    simp only [Rep]
    cases base with
    | none => exact .inl ⟨rfl, trivial⟩
    | some ad => exact .inr ⟨ad, 0, rfl, Nat.le_refl _, Nat.zero_le _, by simp only [RepRows]⟩
  · have hm : (b, AObj.cells e (rows.flatten ++ pad)) ∈ σ' := hsub _ (by simp)
    obtain ⟨vs, hh, hone, hrep⟩ := hS.obj b _ (List.mem_append.2 (.inl hm))
    simp only [Rep]
    refine .inr ⟨_, cap, hr, hle, hcm, RepRows.of_flat hrl (RepAt.of_get fun j hj => ?_)⟩
    rw [Nat.zero_mul, Nat.zero_add, add_lit, Nat.zero_add]
    have hvl := hrep.length
    have hj2 : j < vs.toList.length := by rw [hvl, List.length_append]; omega
    have hg := hrep.get j (by rw [List.length_append]; omega) hj2
    rw [List.getElem_append_left hj] at hg
    refine ⟨vs.toList[j], ⟨?_, ?_⟩, hone _ (List.getElem_mem hj2), Rep.sub (fun q hq => List.mem_append.2 (.inr hq)) hg⟩
    · rw [cell_of_row w b j vs e (0, 0) hh]
      simp
    · intro hmu
      have hk := hmu.of_key
      have hnd := hS.nodup
      rw [keys_append] at hnd
      exact (List.nodup_append.1 hnd).2.2 b (List.mem_map.2 ⟨_, hm, rfl⟩) b hk rfl
theorem OpenL.freeze {e : TypeId} {sz : Nat} {rows : List (List AV)} {v : AV} {σh σ' : Store} {u : Value} (h : OpenL e sz rows v σh) (hS : Sat G (σ' ++ ρ) w) (hsub : Sub σh σ') (hr : Rep (σ' ++ ρ) w v u) : Rep ρ w (.lst sz rows) u := by
  obtain ⟨base, cap, rfl, h⟩ := h
  simp only [Rep] at hr
  exact h.freeze hS hsub hr

def FrzL (σ : Store) : List AV → List AV → Prop
  | [], [] => True
  | x :: xs, y :: ys => (x = y ∨ ∃ e sz rows σh, OpenL e sz rows x σh ∧ Sub σh σ ∧ y = .lst sz rows) ∧ FrzL σ xs ys
  | _, _ => False

theorem FrzL.rep {σ' : Store} (hS : Sat G (σ' ++ ρ) w) : ∀ {xs ys : List AV} {us : List Value}, FrzL σ' xs ys → RepL (σ' ++ ρ) w xs us → RepL ρ w ys us
  | [], [], us, _, h => by simpa [RepL] using h
  | x :: xs, y :: ys, us, hf, h => by
    simp only [RepL] at h ⊢
    obtain ⟨u, us', rfl, h2, h3⟩ := h
    refine ⟨u, us', rfl, ?_, FrzL.rep hS hf.2 h3⟩
    rcases hf.1 with rfl | ⟨e, sz, rows, σh, ho, hs, rfl⟩
    · exact Rep.sub (fun q hq => List.mem_append.2 (.inr hq)) h2
    · exact ho.freeze hS hs h2
  | [], _ :: _, _, h, _ => h.elim
  | _ :: _, [], _, h, _ => h.elim

theorem FnSpec.freeze {k : FuncId} {args ys : List AV} (h : FnSpec G P k args [] (fun r σ => ∃ xs, r = .agg xs ∧ FrzL σ xs ys)) : Pure G P k args (.agg ys) :=
  ⟨h.1, fun ρ w vs hS hA => (h.2 ρ w vs hS hA).mono fun e w' ⟨v, r, σ', he, ⟨xs, hr, hF⟩, hsat, hev, hrep⟩ => by
    subst hr
    refine ⟨v, .agg ys, [], he, ⟨rfl, rfl⟩, hsat.subN (SubN.nil _), hev.trans (Ev.of_sub (SubN.nil _).1 _), ?_⟩
    simp only [Rep] at hrep ⊢
    obtain ⟨vs', h1, h2, h3⟩ := hrep
    exact ⟨vs', h1, h2, by simpa using FrzL.rep hsat hF h3⟩⟩
end

/-! ### stores put together -/

theorem sget_app {σ τ : Store} {b : Nat} (h : b ∉ σ.keys) : Store.get (σ ++ τ) b = Store.get τ b := by
  induction σ with
  | nil => rfl
  | cons p σ ih =>
    obtain ⟨k, x⟩ := p
    simp only [Store.keys, List.map_cons, List.mem_cons, not_or] at h
    simp only [List.cons_append, Store.get, if_neg (Ne.symm h.1)]
    exact ih h.2
theorem sset_app {σ τ : Store} {b : Nat} {y : AObj} (h : b ∉ σ.keys) : Store.set (σ ++ τ) b y = σ ++ Store.set τ b y := by
  induction σ with
  | nil => rfl
  | cons p σ ih =>
    obtain ⟨k, x⟩ := p
    simp only [Store.keys, List.map_cons, List.mem_cons, not_or] at h
    simp only [List.cons_append, Store.set, if_neg (Ne.symm h.1)]
    rw [ih h.2]
theorem SubN.perm {σ' σ : Store} (h : List.Perm σ' σ) : SubN σ' σ :=
  ⟨fun q hq => h.mem_iff.1 hq, fun hn => by unfold Store.keys at *; exact (h.map Prod.fst).nodup_iff.2 hn⟩
theorem SubN.trans {a b c : Store} (h : SubN a b) (k : SubN b c) : SubN a c := ⟨fun q hq => k.1 q (h.1 q hq), fun hn => h.2 (k.2 hn)⟩
theorem SubN.appL {σ τ : Store} : SubN σ (σ ++ τ) := by
  refine ⟨fun q hq => List.mem_append.2 (.inl hq), fun hn => ?_⟩
  rw [keys_append] at hn
  exact (List.nodup_append.1 hn).1
theorem SubN.appR {σ τ : Store} : SubN τ (σ ++ τ) := by
  refine ⟨fun q hq => List.mem_append.2 (.inr hq), fun hn => ?_⟩
  rw [keys_append] at hn
  exact (List.nodup_append.1 hn).2.1
theorem SubN.app {a b c : Store} (h : SubN b c) : SubN (a ++ b) (a ++ c) := by
  refine ⟨fun q hq => ?_, fun hn => ?_⟩
  · rcases List.mem_append.1 hq with hq | hq
    · exact List.mem_append.2 (.inl hq)
    · exact List.mem_append.2 (.inr (h.1 q hq))
  · rw [keys_append] at hn ⊢
    obtain ⟨n1, n2, n3⟩ := List.nodup_append.1 hn
    exact List.nodup_append.2 ⟨n1, h.2 n2, fun x hx y hy => n3 x hx y (keys_sub h.1 hy)⟩

/-! ### rows in a block -/

theorem rows_take {sz : Nat} : ∀ {rows : List (List AV)} {pad : List AV} {i : Nat}, (∀ r ∈ rows, r.length = sz) → (h : i < rows.length) → ((rows.flatten ++ pad).drop (i * sz)).take sz = rows[i]
  | [], _, _, _, h => by simp at h
  | r :: rows, pad, 0, hr, _ => by
    have := hr r (by simp)
    simp [← this]
  | r :: rows, pad, i + 1, hr, h => by
    have h1 := hr r (by simp)
    rw [List.flatten_cons, List.append_assoc, List.drop_append, List.drop_of_length_le (by rw [h1, Nat.add_mul]; omega), List.nil_append, show (i + 1) * sz - r.length = i * sz by rw [h1, Nat.add_mul]; omega]
    exact rows_take (fun q hq => hr q (List.mem_cons_of_mem _ hq)) (by simpa using h)

theorem splice_app {l m : List AV} {o : Nat} {c : List AV} (h : o + c.length ≤ l.length) : splice (l ++ m) o c = splice l o c ++ m := by
  rw [splice_eq _ _ _ h, splice_eq _ _ _ (by simp; omega), List.take_append_of_le_length (by omega), List.drop_append_of_le_length h, List.append_assoc, List.append_assoc, List.append_assoc]
theorem splice_len {l : List AV} {o : Nat} {c : List AV} (h : o + c.length ≤ l.length) : (splice l o c).length = l.length := by
  rw [splice_eq _ _ _ h]; simp; omega
theorem rows_splice {sz : Nat} {c : List AV} {off : Nat} (hc : off + c.length ≤ sz) : ∀ {rows : List (List AV)} {pad : List AV} {i : Nat}, (∀ r ∈ rows, r.length = sz) → (h : i < rows.length) →
    splice (rows.flatten ++ pad) (i * sz + off) c = (rows.set i (splice rows[i] off c)).flatten ++ pad
  | [], _, _, _, h => by simp at h
  | r :: rows, pad, 0, hr, _ => by
    have h1 := hr r (by simp)
    simp only [Nat.zero_mul, Nat.zero_add, List.flatten_cons, List.append_assoc, List.set_cons_zero, List.getElem_cons_zero]
    rw [splice_app (by omega)]
  | r :: rows, pad, i + 1, hr, h => by
    have h1 := hr r (by simp)
    have hl : i < rows.length := by simpa using h
    have ih := rows_splice hc (pad := pad) (fun q hq => hr q (List.mem_cons_of_mem _ hq)) hl
    have hfl := flat_len rows (fun q hq => hr q (List.mem_cons_of_mem _ hq))
    have hle : i * sz + off + c.length ≤ (rows.flatten ++ pad).length := by
      have := Nat.mul_le_mul_right sz (show i + 1 ≤ rows.length from hl)
      rw [Nat.add_mul] at this
      rw [List.length_append, hfl]; omega
    rw [splice_eq _ _ _ hle] at ih
    have hle2 : (i + 1) * sz + off + c.length ≤ (r ++ (rows.flatten ++ pad)).length := by rw [List.length_append, h1, Nat.add_mul]; omega
    rw [List.flatten_cons, List.append_assoc, splice_eq _ _ _ hle2]
    simp only [List.set_cons_succ, List.getElem_cons_succ, List.flatten_cons, List.append_assoc]
    rw [← ih]
    have e : (i + 1) * sz + off = r.length + (i * sz + off) := by rw [h1, Nat.add_mul]; omega
    rw [e, Nat.add_assoc, List.take_length_add_append, List.drop_length_add_append]
    simp [List.append_assoc]
end Go.Av
end
