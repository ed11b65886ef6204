/-
  ENACT, 12: a book stays one behind each item.
-/
import Derived.Test.YtcecmifknojgeaaGreatDoorXP1toXE11
import Derived.Test.YtcecmifknojgeaaGreatDoorXAv25toXAv26
import Derived.Test.YtcecmifknojgeaaGreatDoorXC1
import Derived.Test.YtcecmifknojgeaaGreatDoorXC2
import Derived.Test.YtcecmifknojgeaaGreatDoorXC3toXL4
import Derived.Test.YtcecmifknojgeaaGreatDoorXL9toXL15
section
namespace Go.Av
open Go Go.RowKit Go.Proofs
set_option linter.unusedSimpArgs false
set_option linter.unusedVariables false

theorem may_own {x : Itm} (h : x.may = true) : x.own (Itm.mayOne x.by_) = true := by
  rw [Itm.may_eq, Bool.and_eq_true] at h
  exact h.2
theorem may_where {x : Itm} (h : x.may = true) (hk : x.kind = 0 ∨ x.kind = 6) : 0 ≤ x.wh ∧ x.wh ≤ 3 := by
  have := may_own h
  unfold Itm.own inR at this
  rcases hk with hk | hk <;> simp [hk] at this <;> omega
theorem may_new {x : Itm} (h : x.may = true) (hk : x.kind = 2 ∨ x.kind = 3 ∨ x.kind = 4) : seqOk x.new = true := by
  have := may_own h
  unfold Itm.own okRow at this
  rcases hk with hk | hk | hk <;> simp [hk] at this <;> simp [this]
theorem may_labelE {x : Itm} (h : x.may = true) (hk : x.kind = 5) : labelOk x.label = true := by
  have := may_own h
  unfold Itm.own at this
  simpa [hk] using this
theorem may_unit {x : Itm} (h : x.may = true) (hk : x.kind = 0) : ∀ y ∈ x.unit.flat, nodeOk y = true := by
  have := may_own h
  unfold Itm.own at this
  simp only [hk, if_true, Bool.and_eq_true] at this
  have h2 := this.2.1
  rw [bareOk_two] at h2
  unfold bareOk2 treeOk2 at h2
  simp only [Bool.and_eq_true] at h2
  exact List.all_eq_true.1 h2.1.1
theorem spot_mem {u : U} (hn : u.ids.Nodup) {i q : Idd} (hi : i ∈ u.ids) {wh : Int} {k : Nat} (h : spot u i wh = some (q, k)) : q ∈ u.ids := by
  unfold spot at h
  split at h
  · injection h with h; injection h with h1 h2; subst h1; exact hi
  · split at h
    · injection h with h; injection h with h1 h2; subst h1; exact hi
    · obtain ⟨⟨p, d, j⟩, e, e2⟩ := Option.map_eq_some_iff.1 h
      injection e2 with e3 e4
      subst e3
      exact (way_parent u hn hi e).mem

theorem ins_good {u : U} (h : Good u) {i : Idd} (hi : i ∈ u.ids) {d : Dd} (hm : d.it.may = true) (hk : d.it.kind = 0) : Good (insP u i d).1 ∧ Root u (insP u i d).1 := by
  unfold insP
  split
  · exact ⟨h, Root.refl u⟩
  · rename_i q k e
    have hq := spot_mem h.nd hi e
    obtain ⟨s1, s2, s3, s4, s5⟩ := stampU_ok d.it.unit d.act d.item (may_unit hm hk)
    obtain ⟨x, hx⟩ : ∃ x, stampU d.it.unit d.act d.item = x := ⟨_, rfl⟩
    rw [hx] at s1 s2 s3 s4 s5 ⊢
    split
    · exact ⟨h, Root.refl u⟩
    · rename_i ht
      split
      · exact ⟨h, Root.refl u⟩
      · rename_i hf
        split
        · exact ⟨h, Root.refl u⟩
        · rename_i hx2
          simp only [not_or, Int.not_le, Int.not_lt, Nat.not_le] at hf
          obtain ⟨f1, f2, f3⟩ := hf
          have hno : ∀ y ∈ x.ids, y ∉ u.ids := by
            intro y hy hyu
            exact hx2 (List.any_eq_true.2 ⟨y, hy, decide_eq_true hyu⟩)
          refine ⟨good_ins h hq s5 ?_ ?_ k ht f1 ?_ ?_, root_kids (g := fun l => insAt l k x)⟩
          · rw [List.nodup_append]
            refine ⟨h.nd, by rw [s1]; exact idRow_nd _ _ _ _, ?_⟩
            intro a ha b hb e2
            subst e2
            exact hno a hb ha
          · rw [s1]; exact idRow_zero _ _ _
          · unfold U.dep at f2; omega
          · unfold U.cnt at f3; omega
theorem mov_good {u : U} (h : Good u) {i t : Idd} (hi : i ∈ u.ids) (hne : u.id ≠ i) (ht : t ∈ u.ids) {d : Dd} (h0 : 0 ≤ d.it.wh) (h3 : d.it.wh ≤ 3) : Good (movP u i t d).1 ∧ Root u (movP u i t d).1 := by
  obtain ⟨g1, g2, g3, A, B, hA, e1, e2⟩ := good_del h hi hne
  obtain ⟨own, dO, j, w1, w2, hp⟩ := par_some h.nd hi hne
  obtain ⟨a, x, b, s, hx, hj, hl⟩ := hp.split
  have hfx : fnd i u = x := fnd_last hl
  have hxf := fndm_flat u h.nd hi
  unfold movP
  split
  · exact ⟨h, Root.refl u⟩
  · rename_i q k e
    split
    · exact ⟨h, Root.refl u⟩
    · rename_i htk
      split
      · exact ⟨h, Root.refl u⟩
      · rename_i hf
        rw [not_or] at hf
        obtain ⟨f1, f2⟩ := hf
        -- the new parent stands in what is left
        have hq : q ∈ (without i u).ids := by
          have hqu : q ∈ u.ids ∧ q ∉ (fnd i u).ids := by
            unfold goesP at e
            rw [w1] at e
            simp only at e
            split at e
            · cases e
            · rename_i hc
              rw [not_or] at hc
              split at e
              · injection e with e; injection e with e3 e4
                subst e3
                refine ⟨hp.mem, ?_⟩
                rw [hfx]
                have := (U.nd_kids hp.nd).2
                rw [s.eq, U.idss_app, U.idss_cons] at this
                exact fun hm => this (List.mem_append.2 (.inr (List.mem_append.2 (.inl hm))))
              · rename_i hti
                obtain ⟨⟨q', k'⟩, e5, e6⟩ := Option.map_eq_some_iff.1 e
                injection e6 with e7 e8
                subst e7
                have hr : ¬ (besides d.it.wh = true ∧ t = u.id) := by
                  rintro ⟨r1, r2⟩
                  have hh : d.it.wh = 2 ∨ d.it.wh = 3 := by simpa [besides] using r1
                  unfold spot at e5
                  rw [wayPar_here r2.symm] at e5
                  rcases hh with hh | hh <;> simp [hh] at e5
                obtain ⟨P, dp, k2, hg⟩ := goal_of h.nd ht h0 h3 hr
                have := hg.spot
                rw [e5] at this
                injection this with this
                injection this with e9 e10
                simp only at e9 ⊢
                rw [e9]
                refine ⟨hg.mem, hg.out i hi fun hm => ?_⟩
                exact hc.1 ((under_iff u h.nd ht hi).2 ⟨hti, hm⟩)
          rw [e2]
          have := hqu.1
          rw [e1] at this
          rcases List.mem_append.1 this with hm | hm
          · exact List.mem_append.2 (.inl hm)
          · rcases List.mem_append.1 hm with hm | hm
            · exact absurd hm hqu.2
            · exact List.mem_append.2 (.inr hm)
        have hperm : ((without i u).ids ++ (fnd i u).ids).Perm u.ids := by
          rw [e2, e1]; exact (perm_ins A _ B).symm
        refine ⟨good_ins g1 hq (fun z hz => h.node z (flat_trans hxf z hz)) (hperm.nodup_iff.2 h.nd) ?_ k htk ?_ ?_ ?_, g2.trans (root_kids (g := fun l => insAt l k (fnd i u)))⟩
        · intro hz
          by_cases hk0 : u.kind = 0
          · have hr := h.root.1 hk0
            have hn := h.nd
            rw [e1] at hn
            obtain ⟨A', hA'⟩ := ids_root e1 hA
            subst hA'
            rw [List.cons_append, List.nodup_cons] at hn
            exact hn.1 (by rw [hr]; exact List.mem_append.2 (.inr (List.mem_append.2 (.inl hz))))
          · exact h.zero hk0 (fnd_sub h.nd hi hz)
        · by_cases hqo : q = own.id
          · -- back to where it was: one child fewer
            subst hqo
            have hW : without i u = U.wth own.id (fun y => { y with kids := delAt y.kids j }) u := by unfold without; rw [w1]
            have hown : own ∈ u.flat := by
              have := fndm_flat u h.nd hp.mem
              rw [hp.fnd] at this; exact this
            have hox : own.id ∉ x.ids := by
              have := (U.nd_kids hp.nd).2
              rw [s.eq, U.idss_app, U.idss_cons] at this
              exact fun hm => this (List.mem_append.2 (.inr (List.mem_append.2 (.inl hm))))
            subst hj
            have hway := way_out (t := own.id) h.nd hp s.eq hox
            have hf2 : fnd own.id (without i u) = { own with kids := a ++ b } := by
              rw [hW]
              refine fnd_last ?_
              rw [hway, List.getLast?_map, hp.last, Option.map_some, wth_here rfl, s.eq, delAt_split]
            rw [hf2]
            have := nodeOk_few (h.node own hown)
            rw [s.eq] at this
            simp at this ⊢
            omega
          · rw [w2] at f1
            apply Classical.byContradiction
            intro hc
            exact f1 ⟨hqo, by omega⟩
        · unfold U.dep at f2; omega
        · have := congrArg List.length e1
          have e3 := congrArg List.length e2
          rw [U.ids_len, List.length_append, List.length_append, U.ids_len] at this
          rw [U.ids_len, List.length_append] at e3
          have := h.cnt
          omega
theorem do_good {u : U} (h : Good u) (d : Dd) : Good (doP u d).1 ∧ Root u (doP u d).1 := by
  have h0 : Good u ∧ Root u u := ⟨h, Root.refl u⟩
  unfold doP
  split
  · exact h0
  rename_i c1
  have hm : d.it.may = true := by cases hh : d.it.may <;> simp_all
  split
  · exact h0
  rename_i c2
  have hi := one_mem (u := u) (p := d.it.at_) (by simpa using c2)
  obtain ⟨i, hie⟩ : ∃ i, (one u d.it.at_).1 = i := ⟨_, rfl⟩
  rw [hie] at hi ⊢
  split
  · rename_i k0
    exact ins_good h hi hm k0
  rename_i k0
  split
  · split <;> exact h0
  rename_i hiu
  have hne : u.id ≠ i := fun e => hiu e.symm
  have hk := h.kind hi hne
  have hxf := fndm_flat u h.nd hi
  have hnx := h.node _ hxf
  split
  · have := good_del h hi hne
    exact ⟨this.1, this.2.1⟩
  split
  · rename_i k2
    split
    · exact h0
    · rename_i he
      have hw := editE_ok (a := d.act) (b := d.item) (own_fields hnx hk).2.2 (may_new hm (by omega)) (by simpa using he)
      refine good_inner h hi hne (fun _ => rfl) (fun _ => rfl) (nodes_wth (f := fun y => { y with words := (editE (fnd i u).words d.it d.act d.item).1 }) (fun _ => rfl) u h.nd hi h.node fun z hz => ?_)
      rcases flat_kids' (y := fnd i u) (z := { fnd i u with words := (editE (fnd i u).words d.it d.act d.item).1 }) rfl z hz with rfl | hz
      · exact node_words hnx hk hw
      · exact h.node z (flat_trans hxf z hz)
  split
  · rename_i k4
    have hw : rowOk (markW d.act d.item d.it.new 0) = true := by
      have := seqOk_all (may_new hm (.inr (.inr k4)))
      exact rowOk_mk (markW_ok this.1) (by rw [markW_len]; omega)
    refine good_inner h hi hne (fun _ => rfl) (fun _ => rfl) (nodes_wth (f := fun y => { y with head := markW d.act d.item d.it.new 0 }) (fun _ => rfl) u h.nd hi h.node fun z hz => ?_)
    rcases flat_kids' (y := fnd i u) (z := { fnd i u with head := markW d.act d.item d.it.new 0 }) rfl z hz with rfl | hz
    · exact node_head hnx hk hw
    · exact h.node z (flat_trans hxf z hz)
  split
  · rename_i k5
    split
    · exact h0
    · rename_i ht
      refine good_inner h hi hne (fun _ => rfl) (fun _ => rfl) (nodes_label u h.nd hi hne h.node (may_labelE hm k5) (fun p dd j e => ?_) hk)
      have hp := way_parent u h.nd hi e
      obtain ⟨a, k, b, s, hkk, hj, hl⟩ := hp.split
      have hpr : (parR i u).1 = p := by unfold parR; rw [par_way u h.nd hi, e]; rfl
      rw [hpr] at ht
      have hpf : p ∈ u.flat := by
        have := fndm_flat u h.nd hp.mem
        rw [hp.fnd] at this; exact this
      have hnest := nodeOk_nests (h.node p hpf) k (by rw [s.eq]; simp)
      have hfk : fnd i u = k := fnd_last hl
      rw [hfk] at ht ⊢
      cases htt : taken p.kids k.kind d.it.label with
      | false => rfl
      | true => exact absurd (by unfold takes; simp only; rw [hnest, htt]; simp) ht
  split
  · exact h0
  rename_i c7
  have ht := one_mem (u := u) (p := d.it.to_) (by simpa using c7)
  have hk6 : d.it.kind = 6 := by
    have : chg d.it.kind = true := by cases hh : chg d.it.kind <;> simp_all
    simp only [chg, Bool.and_eq_true, decide_eq_true_eq] at this
    omega
  have hw := may_where hm (.inr hk6)
  exact mov_good h hi hne ht hw.1 hw.2
end Go.Av
end

section
namespace Go.Av
open Go Go.RowKit Go.Proofs
set_option linter.unusedSimpArgs false
set_option linter.unusedVariables false

theorem labelOk_len {s : List UInt8} (h : labelOk s = true) : s.length ≤ 7 := by
  unfold labelOk at h
  simp only [Bool.and_eq_true, decide_eq_true_eq] at h
  omega
theorem rowOk_len {l : List Wd} (h : rowOk l = true) : l.length ≤ 256 ∧ ∀ w ∈ l, w.text.length ≤ 24 := by
  unfold rowOk at h
  simp only [Bool.and_eq_true, decide_eq_true_eq] at h
  refine ⟨by omega, fun w hw => ?_⟩
  have := List.all_eq_true.1 h.2 w hw
  unfold wdOk wordOk at this
  simp only [Bool.and_eq_true, decide_eq_true_eq] at this
  omega
structure Slim (y : U) : Prop where
  label : y.label.length ≤ 7
  head : y.head.length ≤ 256 ∧ ∀ w ∈ y.head, w.text.length ≤ 24
  words : y.words.length ≤ 256 ∧ ∀ w ∈ y.words, w.text.length ≤ 24
  kids : y.kids.length ≤ 64
theorem nodeOk_slim {y : U} (h : nodeOk y = true) : Slim y := by
  have hk := nodeOk_few h
  by_cases h0 : y.kind = 0
  · unfold nodeOk own1 at h
    rw [if_pos h0] at h
    simp only [Bool.and_eq_true, decide_eq_true_eq] at h
    obtain ⟨⟨h1, h2, h3⟩, _⟩ := h
    have e2 : y.head = [] := List.eq_nil_of_length_eq_zero (by omega)
    have e3 : y.words = [] := List.eq_nil_of_length_eq_zero (by omega)
    exact ⟨by rw [h1]; simp, by rw [e2]; simp, by rw [e3]; simp, hk⟩
  · obtain ⟨h1, h2, h3⟩ := own_fields h h0
    exact ⟨labelOk_len h1, rowOk_len h2, rowOk_len h3, hk⟩
theorem slim_fit : ∀ u : U, (∀ y ∈ u.flat, Slim y) → u.fit := by
  refine U.ind fun u ih h => ?_
  have hu := h u u.flat_self
  refine (U.fit_eq u).2 ⟨by have := hu.label; omega, ⟨by have := hu.head.1; omega, fun x hx => by have := hu.head.2 x hx; omega⟩, ⟨by have := hu.words.1; omega, fun x hx => by have := hu.words.2 x hx; omega⟩, by have := hu.kids; omega, fun k hk => ?_⟩
  exact ih k hk fun y hy => h y (U.flat_kid hk hy)
theorem nodes_short {u : U} (h : ∀ y ∈ u.flat, nodeOk y = true) (hc : u.flat.length < 1000000) : u.Short := by
  refine ⟨⟨slim_fit u fun y hy => nodeOk_slim (h y hy), hc⟩, fun x hx => ?_⟩
  have s := nodeOk_slim (h x hx)
  exact ⟨by have := s.label; omega, by have := s.head.1; omega, by have := s.words.1; omega, fun w hw => by have := s.head.2 w hw; omega, fun w hw => by have := s.words.2 w hw; omega⟩
theorem Good.short {u : U} (h : Good u) : u.Short := nodes_short h.node (by have := h.cnt; omega)
end Go.Av
end

section
namespace Go.Av
open Go Go.RowKit
set_option linter.unusedVariables false

section
variable {G : Glob} {P : Program} {σ ρ : Store} {w : World} {env : Env} {K : AV → Store → Prop}
theorem RAW_appendZ {t tx e e' : TypeId} {sz bytes : Nat} {x y : Operand} {rows ys : List (List AV)} {g : Option Nat} {xv : AV}
    (hu : P.underlying t = some (.slice e)) (hk : P.underlying tx = some (.slice e')) (hi : (P.info? e).map (fun i => (i.size, i.bytes)) = some (sz, bytes)) (hz : (zeroT P e).map List.length = some sz) (hpos : sz ≠ 0) (hb0 : bytes ≠ 0)
    (hxv : (SOpd.of x).eval G env = xv) (hW : WS σ e sz xv rows g) (hys : srcX sz ((SOpd.of y).eval G env) fun l => l = ys) (hbytes : (rows.length + ys.length) * bytes ≤ 140737488355328)
    (hk0 : rows = [] → ys = [] → K xv σ)
    (hk1 : ∀ b cap pad, b ∉ (σ.erase g).keys → (rows ++ ys).length ≤ cap → cap ≤ maxLen → (∀ r ∈ rows ++ ys, r.length = sz) → ((rows ++ ys).flatten ++ pad).length = cap * sz →
      K (.sc (.slice (some ⟨b, 0, none⟩) (rows ++ ys).length cap)) ((b, .cells e ((rows ++ ys).flatten ++ pad)) :: σ.erase g)) : RAW G P (.call (.mk (.builtin .append) #[x, y] #[t, tx])) env σ K ⟨⟩ := by
  obtain ⟨i, hi', he⟩ := Option.map_eq_some_iff.1 hi
  obtain ⟨z, hz', hzl⟩ := Option.map_eq_some_iff.1 hz
  simp only [Prod.mk.injEq] at he
  obtain ⟨rfl, rfl⟩ := he
  exact RAW_appendW (ty := 0) hu hk hi' hz' hzl hpos hb0 hxv hW hys hbytes hk0 hk1

end
end Go.Av
end

section
namespace Go.Av
open Go Go.RowKit Go.Proofs
set_option linter.unusedSimpArgs false
set_option linter.unusedVariables false

theorem rows4 (l : List Wd) : ∀ r ∈ l.map Wd.cs, r.length = 4 := by
  intro r hr
  obtain ⟨w, _, rfl⟩ := List.mem_map.1 hr
  rfl
theorem rows8 (l : List U) : ∀ r ∈ l.map U.cs, r.length = 8 := by
  intro r hr
  obtain ⟨w, _, rfl⟩ := List.mem_map.1 hr
  exact U.cs_len w
theorem openS_nil {e : TypeId} {sz : Nat} {v : Value} (h : emptyS v) : OpenL e sz [] (.sc v) [] := by
  rcases h with rfl | ⟨a, rfl⟩
  · exact ⟨none, 0, rfl, .inl ⟨rfl, rfl, rfl⟩⟩
  · exact ⟨some a, 0, rfl, .inl ⟨rfl, rfl, rfl⟩⟩
theorem RET.le {x y : AV} {R : AV → Store → Prop} {σ σ' : Store} (hl : AVle x y) (hs : SubN σ' σ) (h : R y σ') : RET x σ R := ⟨y, σ', hl, hs, h⟩
theorem RET.mk' {x : AV} {R : AV → Store → Prop} {σ σ' : Store} (hs : SubN σ' σ) (h : R x σ') : RET x σ R := ⟨x, σ', AVle.rfl' _, hs, h⟩

section
variable (G : Glob)

theorem f82 (l : List Wd) (hl : l.length < 1000000) : FnSpec G Tryz.prog 82 [.lst 4 (l.map Wd.cs)] [] (fun r σ => OpenL 64 4 (l.map Wd.cs) r σ) := by
  obtain ⟨rows, hrows⟩ : ∃ rows, l.map Wd.cs = rows := ⟨_, rfl⟩
  have hlen : rows.length = l.length := by rw [← hrows, List.length_map]
  have hsz : ∀ r ∈ rows, r.length = 4 := by rw [← hrows]; exact rows4 l
  rw [hrows]
  refine FnSpec.w c82 ?_
  unfold s82 r82
  simp -dsimp -implicitDefEqProofs only [EV1, EV2, EV3, EV4, EV5, Option.map_some, decide_true, decide_false, seval, ↓reduceIte, reduceCtorEq, eq_self]
  intro bb hbb
  refine split_case (fun h => ?_) (fun h => ?_)
  · simp -dsimp -implicitDefEqProofs only [EV1, EV2, EV3, EV4, EV5, Option.map_some, decide_true, decide_false, seval, ↓reduceIte, reduceCtorEq, eq_self]
    have h0 : rows = [] := by
      rcases Classical.em (rows = []) with h1 | h1
      · exact h1
      · rw [hbb h1] at h; cases h
    subst h0
    exact RET.le (y := .sc (.slice none 0 0)) (Or.inl (Or.inr rfl)) (SubN.refl _) (openS_nil (.inl rfl))
  · simp -dsimp -implicitDefEqProofs only [EV1, EV2, EV3, EV4, EV5, Option.map_some, decide_true, decide_false, seval, ↓reduceIte, reduceCtorEq, eq_self]
    refine RAW_buildS0 (e := 64) (n := 4) (by kernel_rfl) (by kernel_rfl) (fun v hv => ?_)
    simp -dsimp -implicitDefEqProofs only [EV1, EV2, EV3, EV4, EV5, Option.map_some, decide_true, decide_false, seval, ↓reduceIte, reduceCtorEq, eq_self]
    refine RAW_appendZ (e := 64) (e' := 64) (sz := 4) (bytes := 40) (rows := []) (ys := rows) (g := none) (xv := .sc v) (by kernel_rfl) (by kernel_rfl) (by kernel_rfl) (by kernel_rfl) (by decide) (by decide) rfl (.inl ⟨rfl, rfl, .inr ⟨v, rfl, hv⟩⟩) ?_ ?_ ?_ ?_
    · exact ⟨rfl, rfl⟩
    · simp; omega
    · intro _ h0
      simp -dsimp -implicitDefEqProofs only [EV1, EV2, EV3, EV4, EV5, Option.map_some, decide_true, decide_false, seval, ↓reduceIte, reduceCtorEq, eq_self]
      subst h0
      exact RET.mk' (SubN.refl _) (openS_nil hv)
    · intro b cap pad hb hle hcm hr2 hln
      simp -dsimp -implicitDefEqProofs only [EV1, EV2, EV3, EV4, EV5, Option.map_some, decide_true, decide_false, seval, ↓reduceIte, reduceCtorEq, eq_self]
      simp only [List.nil_append] at *
      exact RET.mk' (SubN.refl _) ⟨_, _, rfl, .inr ⟨b, pad, rfl, rfl, hle, hcm, hr2, hln⟩⟩
end
end Go.Av
end

section
namespace Go.Av
open Go Go.RowKit Go.Proofs
set_option linter.unusedSimpArgs false
set_option linter.unusedVariables false

theorem nd_app {σ τ : Store} (h : (σ ++ τ : Store).keys.Nodup) {b : Nat} (hb : b ∈ τ.keys) : b ∉ σ.keys := by
  rw [keys_append] at h
  exact fun hm => (List.nodup_append.1 h).2.2 b hm b hb rfl
theorem nd_appR {σ τ : Store} (h : (σ ++ τ : Store).keys.Nodup) : τ.keys.Nodup := by
  rw [keys_append] at h
  exact (List.nodup_append.1 h).2.1

def CopyR (u : U) (r : AV) (σ : Store) : Prop :=
  ∃ bh ch σh bw cw σw bk ck σk, r = .agg [.int .i64 u.id.act, .int .i64 u.id.item, .int .i64 u.id.n, .int .i64 u.kind, .str u.label, .sc (.slice bh u.head.length ch), .sc (.slice bw u.words.length cw), .sc (.slice bk u.kids.length ck)] ∧
    σ = σk ++ (σw ++ σh) ∧ OpenS 64 4 (u.head.map Wd.cs) bh ch σh ∧ OpenS 64 4 (u.words.map Wd.cs) bw cw σw ∧ OpenS 27 8 (u.kids.map U.cs) bk ck σk

theorem CopyR.freeze {G : Glob} {P : Program} {k : FuncId} {args : List AV} {u : U} (h : FnSpec G P k args [] (CopyR u)) : Pure G P k args (.agg u.cs) := by
  refine FnSpec.freeze (FnSpec.mono h ?_)
  rintro r σ' ⟨bh, ch, σh, bw, cw, σw, bk, ck, σk, rfl, rfl, h1, h2, h3⟩
  refine ⟨_, rfl, ?_⟩
  rw [U.cs_eq]
  refine ⟨.inl rfl, .inl rfl, .inl rfl, .inl rfl, .inl rfl, .inr ⟨_, _, _, σh, ⟨bh, ch, by simp, h1⟩, ?_, rfl⟩, .inr ⟨_, _, _, σw, ⟨bw, cw, by simp, h2⟩, ?_, rfl⟩, .inr ⟨_, _, _, σk, ⟨bk, ck, by simp, h3⟩, ?_, rfl⟩, trivial⟩ <;>
  · intro p hp
    simp only [List.mem_append]
    simp [hp]

abbrev KS := Option (Nat × Nat × List AV)
def kAV (c : KS) (n : Nat) : AV := match c with
  | none => .nil
  | some (b, cap, _) => .sc (.slice (some ⟨b, 0, none⟩) n cap)
def kSt (c : KS) (rows : List (List AV)) : Store := match c with
  | none => []
  | some (b, _, pad) => [(b, .cells 27 (rows.flatten ++ pad))]
def kOk (c : KS) (rows : List (List AV)) : Prop := match c with
  | none => rows = []
  | some (b, cap, pad) => rows.length ≤ cap ∧ cap ≤ maxLen ∧ (∀ r ∈ rows, r.length = 8) ∧ (rows.flatten ++ pad).length = cap * 8
theorem kWS {c : KS} {rows : List (List AV)} (h : kOk c rows) : WS (kSt c rows) 27 8 (kAV c rows.length) rows (c.map (·.1)) := by
  cases c with
  | none => exact .inl ⟨h, rfl, .inl rfl⟩
  | some p =>
    obtain ⟨b, cap, pad⟩ := p
    obtain ⟨h1, h2, h3, h4⟩ := h
    exact .inr ⟨b, cap, pad, rfl, rfl, by simp [kSt, Store.get], h3, h4, h1, h2⟩
theorem kErase (c : KS) (rows : List (List AV)) : (kSt c rows).erase (c.map (·.1)) = [] := by
  cases c with
  | none => rfl
  | some p => obtain ⟨b, cap, pad⟩ := p; simp [kSt, Store.erase]
theorem kS {c : KS} {rows : List (List AV)} (h : kOk c rows) : ∃ base cap, AVle1 (kAV c rows.length) (.sc (.slice base rows.length cap)) ∧ OpenS 27 8 rows base cap (kSt c rows) := by
  cases c with
  | none =>
    have h : rows = [] := h
    subst h
    exact ⟨none, 0, .inr rfl, .inl ⟨rfl, rfl, rfl⟩⟩
  | some p =>
    obtain ⟨b, cap, pad⟩ := p
    obtain ⟨h1, h2, h3, h4⟩ := h
    exact ⟨some ⟨b, 0, none⟩, cap, .inl rfl, .inr ⟨b, pad, rfl, rfl, h1, h2, h3, h4⟩⟩

section
variable (G : Glob)
set_option maxHeartbeats 2000000 in
theorem f51 : ∀ (u : U), u.Short → FnSpec G Tryz.prog 51 [.agg u.cs] [] (CopyR u) := by
  refine U.ind fun u ih hs => ?_
  have h0 := hs.2 u u.flat_self
  have hkl := hs.1.kids
  have hCh := f82 G u.head h0.2.1
  have hCw := f82 G u.words h0.2.2.1
  rw [U.cs_eq u]
  refine FnSpec.w c51 ?_
  unfold s51 r51
  (try simp -dsimp -implicitDefEqProofs only [EVz, seval, ↓reduceIte, reduceCtorEq, EV6, EV7])
  intro b1 hb1 b2 hb2
  have hb12 : ¬ b1 = b2 := by simp only [EVK] at hb2; exact fun e => hb2 e.symm
  have hb21 : ¬ b2 = b1 := fun e => hb12 e.symm
  (repeat' (first | simp -dsimp -implicitDefEqProofs only [EVz, seval, ↓reduceIte, reduceCtorEq, EV6, EV7, hb12, hb21] | (with_reducible refine both_case ?_ ?_) | fail))
  all_goals (
    refine CALL_specN [] _ hCh.v (AVleA.rfl' _) (SubN.refl _) ?_
    rintro _ σh ⟨bh, ch, rfl, hOh⟩ hnd1
    have h11 : b1 ∉ σh.keys := nd_app hnd1 (by simp [Store.keys])
    have h12 : b2 ∉ σh.keys := nd_app hnd1 (by simp [Store.keys])
    (try simp -dsimp -implicitDefEqProofs only [EVz, seval, ↓reduceIte, reduceCtorEq, EV6, EV7, sget_app h11, sget_app h12, sset_app h11, sset_app h12, hb12, hb21])
    refine CALL_specN [] _ hCw.v (AVleA.rfl' _) (SubN.refl _) ?_
    rintro _ σw ⟨bw, cw, rfl, hOw⟩ hnd2
    have h21 : b1 ∉ σw.keys := nd_app hnd2 (by simp [Store.keys])
    have h22 : b2 ∉ σw.keys := nd_app hnd2 (by simp [Store.keys])
    (try simp -dsimp -implicitDefEqProofs only [EVz, seval, ↓reduceIte, reduceCtorEq, EV6, EV7, sget_app h11, sget_app h12, sset_app h11, sset_app h12, sget_app h21, sget_app h22, sset_app h21, sset_app h22, hb12, hb21, List.append_eq]))
  all_goals (
    refine same_case ?_
    (try simp -dsimp -implicitDefEqProofs only [EVz, seval, ↓reduceIte, reduceCtorEq, EV6, EV7, sget_app h11, sget_app h12, sset_app h11, sset_app h12, sget_app h21, sget_app h22, sset_app h21, sset_app h22, hb12, hb21, List.append_eq])
    have hnd3 : Store.keys (σw ++ (σh ++ [(b2, AObj.cells 27 [.int .i64 0, .int .i64 0, .int .i64 0, .int .i64 0, .str [], .nil, .nil, .nil]), (b1, AObj.cells 27 [.int .i64 u.id.act, .int .i64 u.id.item, .int .i64 u.id.n, .int .i64 u.kind, .str u.label, .sc (.slice bh u.head.length ch), .sc (.slice bw u.words.length cw), .lst 8 (u.kids.map U.cs)])])) |>.Nodup := by
      simp only [List.append_eq] at hnd2
      simpa [Store.keys] using hnd2
    refine W_list (ι := KS) u.kids (fun i r c => kOk c ((u.kids.take i).map U.cs) ∧ (Store.keys (kSt c ((u.kids.take i).map U.cs) ++ (σw ++ (σh ++ [(b2, AObj.cells 27 [.int .i64 0, .int .i64 0, .int .i64 0, .int .i64 0, .str [], .nil, .nil, .nil]), (b1, AObj.cells 27 [.int .i64 u.id.act, .int .i64 u.id.item, .int .i64 u.id.n, .int .i64 u.kind, .str u.label, .sc (.slice bh u.head.length ch), .sc (.slice bw u.words.length cw), .lst 8 (u.kids.map U.cs)])])))).Nodup)
      (fun i c => [(1, .sc (.pointer (some ⟨b1, 0, none⟩))), (2, .sc (.pointer (some ⟨b2, 0, none⟩))), (3, kAV c i), (15, .lst 8 (u.kids.map U.cs)), (16, .int .i64 u.kids.length), (17, .int .i64 i)])
      (fun i c => kSt c ((u.kids.take i).map U.cs) ++ (σw ++ (σh ++ [(b2, AObj.cells 27 [.int .i64 0, .int .i64 0, .int .i64 0, .int .i64 0, .str [], .nil, .nil, .nil]), (b1, AObj.cells 27 [.int .i64 u.id.act, .int .i64 u.id.item, .int .i64 u.id.n, .int .i64 u.kind, .str u.label, .sc (.slice bh u.head.length ch), .sc (.slice bw u.words.length cw), .lst 8 (u.kids.map U.cs)])]))) none ⟨rfl, hnd3⟩ (Weak.rfl' _ _) (by omega) (fun i x r c hok hx hw => ?_) (fun c hok hn => ?_)
    · have hil : ((u.kids.take i).map U.cs).length = i := by rw [List.length_map, List.length_take]; have := hx.lt; omega
      have hws := kWS hok.1
      rw [hil] at hws
      (try simp -dsimp -implicitDefEqProofs only [EVz, seval, ↓reduceIte, reduceCtorEq, EV6, EV7, hx.yes, hx.le0, hx.lt', hx.row, hw, hx.get, sget_app h11, sget_app h12, sset_app h11, sset_app h12, sget_app h21, sget_app h22, sset_app h21, sset_app h22, hb12, hb21, List.append_eq])
      intro b5 hb5
      (try simp -dsimp -implicitDefEqProofs only [EVz, seval, ↓reduceIte, reduceCtorEq, EV6, EV7, hx.yes, hx.le0, hx.lt', hx.row, hw, hx.get, sget_app h11, sget_app h12, sset_app h11, sset_app h12, sget_app h21, sget_app h22, sset_app h21, sset_app h22, hb12, hb21, List.append_eq])
      refine CALL_pure (CopyR.freeze (ih x hx.mem (hs.kid hx.mem))) ?_
      (try simp -dsimp -implicitDefEqProofs only [EVz, seval, ↓reduceIte, reduceCtorEq, EV6, EV7, hx.yes, hx.le0, hx.lt', hx.row, hw, hx.get, sget_app h11, sget_app h12, sset_app h11, sset_app h12, sget_app h21, sget_app h22, sset_app h21, sset_app h22, hb12, hb21, List.append_eq])
      intro b6 hb6
      refine ⟨[x.cs], rfl, by simp [U.cs_len], by simp, ?_⟩
      (try simp -dsimp -implicitDefEqProofs only [EVz, seval, ↓reduceIte, reduceCtorEq, EV6, EV7, sget_app h11, sget_app h12, sset_app h11, sset_app h12, sget_app h21, sget_app h22, sset_app h21, sset_app h22, hb12, hb21, List.append_eq])
      refine RAW_frameN (kSt c ((u.kids.take i).map U.cs)) (σw ++ (σh ++ [(b2, AObj.cells 27 [.int .i64 0, .int .i64 0, .int .i64 0, .int .i64 0, .str [], .nil, .nil, .nil]), (b1, AObj.cells 27 [.int .i64 u.id.act, .int .i64 u.id.item, .int .i64 u.id.n, .int .i64 u.kind, .str u.label, .sc (.slice bh u.head.length ch), .sc (.slice bw u.words.length cw), .lst 8 (u.kids.map U.cs)])])) (((SubN.refl _).tail _).tail _) ?_
      refine RAW_appendZ (e := 27) (e' := 27) (sz := 8) (bytes := 120) (rows := (u.kids.take i).map U.cs) (ys := [x.cs]) (g := c.map (·.1)) (xv := kAV c i) (by kernel_rfl) (by kernel_rfl) (by kernel_rfl) (by kernel_rfl) (by decide) (by decide) rfl hws ⟨rfl, rfl⟩ (by rw [hil]; simp only [List.length_cons, List.length_nil]; have := hx.lt; omega) (fun _ h => by cases h) (fun b cap pad hb hle hcm hr2 hln hnd => ?_)
      rw [kErase] at hnd ⊢
      have hlen1 : ((u.kids.take i).map U.cs ++ [x.cs]).length = i + 1 := by rw [List.length_append, hil]; rfl
      have htk : (u.kids.take (i + 1)).map U.cs = (u.kids.take i).map U.cs ++ [x.cs] := by rw [hx.take]; simp
      (try simp -dsimp -implicitDefEqProofs only [EVz, seval, ↓reduceIte, reduceCtorEq, EV6, EV7, hw, hlen1, sget_app h11, sget_app h12, sset_app h11, sset_app h12, sget_app h21, sget_app h22, sset_app h21, sset_app h22, hb12, hb21, List.append_eq])
      refine LK_next hx (some (b, cap, pad)) ⟨?_, ?_⟩ ?_
      · rw [htk]; exact ⟨hle, hcm, hr2, hln⟩
      · rw [htk]; exact hnd
      · rw [htk]; exact Weak.rfl' _ _
    · rw [List.take_length] at hok ⊢
      obtain ⟨bk, ck, hle, hop⟩ := kS hok.1
      rw [List.length_map] at hle
      have hnk := hok.2
      have hk1 : b1 ∉ (kSt c (u.kids.map U.cs)).keys := nd_app hnk (by simp [Store.keys])
      have hk2 : b2 ∉ (kSt c (u.kids.map U.cs)).keys := nd_app hnk (by simp [Store.keys])
      have fin : ∀ v : AV, AVle1 v (.sc (.slice bk u.kids.length ck)) → RET (.agg [.int .i64 u.id.act, .int .i64 u.id.item, .int .i64 u.id.n, .int .i64 u.kind, .str u.label, .sc (.slice bh u.head.length ch), .sc (.slice bw u.words.length cw), v])
          (kSt c (u.kids.map U.cs) ++ (σw ++ (σh ++ [(b2, AObj.cells 27 [.int .i64 u.id.act, .int .i64 u.id.item, .int .i64 u.id.n, .int .i64 u.kind, .str u.label, .sc (.slice bh u.head.length ch), .sc (.slice bw u.words.length cw), v]), (b1, AObj.cells 27 [.int .i64 u.id.act, .int .i64 u.id.item, .int .i64 u.id.n, .int .i64 u.kind, .str u.label, .sc (.slice bh u.head.length ch), .sc (.slice bw u.words.length cw), v])]))) (CopyR u) := fun v hv =>
        RET.le (y := .agg [.int .i64 u.id.act, .int .i64 u.id.item, .int .i64 u.id.n, .int .i64 u.kind, .str u.label, .sc (.slice bh u.head.length ch), .sc (.slice bw u.words.length cw), .sc (.slice bk u.kids.length ck)])
          (.inr ⟨.inl rfl, .inl rfl, .inl rfl, .inl rfl, .inl rfl, .inl rfl, .inl rfl, hv, trivial⟩) (SubN.app (SubN.app SubN.appL)) ⟨bh, ch, σh, bw, cw, σw, bk, ck, _, rfl, rfl, by simpa using hOh, by simpa using hOw, by simpa using hop⟩
      rcases c with _ | ⟨b, cap, pad⟩
      · simp only [kAV] at *
        (try simp -dsimp -implicitDefEqProofs only [EVz, seval, ↓reduceIte, reduceCtorEq, EV6, EV7, hn, sget_app hk1, sget_app hk2, sset_app hk1, sset_app hk2, sget_app h11, sget_app h12, sset_app h11, sset_app h12, sget_app h21, sget_app h22, sset_app h21, sset_app h22, hb12, hb21, List.append_eq])
        exact fin _ hle
      · simp only [kAV] at *
        (try simp -dsimp -implicitDefEqProofs only [EVz, seval, ↓reduceIte, reduceCtorEq, EV6, EV7, hn, sget_app hk1, sget_app hk2, sset_app hk1, sset_app hk2, sget_app h11, sget_app h12, sset_app h11, sset_app h12, sget_app h21, sget_app h22, sset_app h21, sset_app h22, hb12, hb21, List.append_eq])
        exact fin _ hle)
end
end Go.Av
end
