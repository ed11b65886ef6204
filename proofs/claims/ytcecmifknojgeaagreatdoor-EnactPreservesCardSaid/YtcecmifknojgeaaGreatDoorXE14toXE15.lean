/-
  ENACT, 14: what an item leaves as it was.
-/
import Derived.Test.YtcecmifknojgeaaGreatDoorXE12toXL27
import Derived.Test.YtcecmifknojgeaaGreatDoorXM2toXM9
section
namespace Go.Av
open Go Go.RowKit Go.Proofs
set_option linter.unusedSimpArgs false
set_option linter.unusedVariables false

abbrev K5 := Idd × Int × List UInt8 × List Wd × List Wd
def U.k5 (y : U) : K5 := (y.id, y.kind, y.label, y.head, y.words)
def U.all5 (u : U) : List K5 := u.flat.map U.k5
def U.alls5 (us : List U) : List K5 := (U.flats us).map U.k5
theorem U.all5_eq (u : U) : u.all5 = u.k5 :: U.alls5 u.kids := by unfold U.all5 U.alls5; rw [U.flat_eq]; rfl
theorem U.alls5_nil : U.alls5 [] = [] := by unfold U.alls5; rw [flats_nil]; rfl
theorem U.alls5_cons (u : U) (us : List U) : U.alls5 (u :: us) = u.all5 ++ U.alls5 us := by unfold U.alls5 U.all5; rw [flats_cons, List.map_append]
theorem U.alls5_app (a b : List U) : U.alls5 (a ++ b) = U.alls5 a ++ U.alls5 b := by unfold U.alls5; rw [flats_app, List.map_append]
theorem U.ids_k5 (u : U) : u.ids = u.all5.map (·.1) := by unfold U.ids U.all5; rw [List.map_map]; rfl
theorem k5_wth {i : Idd} {f : U → U} (u : U) (hn : u.ids.Nodup) (hi : i ∈ u.ids) : ∃ l r, u.all5 = l ++ ((fnd i u).all5 ++ r) ∧ (U.wth i f u).all5 = l ++ ((f (fnd i u)).all5 ++ r) := by
  refine U.wayInd (i := i) (p := fun u => ∃ l r, u.all5 = l ++ ((fnd i u).all5 ++ r) ∧ (U.wth i f u).all5 = l ++ ((f (fnd i u)).all5 ++ r)) ?_ ?_ u hn hi
  · intro u _ h
    have e : fnd i u = u := fnd_last (by rw [way_here h]; rfl)
    refine ⟨[], [], ?_, ?_⟩
    · rw [e]; simp
    · rw [wth_here h, e]; simp
  · intro u a k b hn h s ⟨l, r, e1, e2⟩
    rw [s.fnd hn s.mem]
    refine ⟨u.k5 :: (U.alls5 a ++ l), r ++ U.alls5 b, ?_, ?_⟩
    · rw [U.all5_eq, s.eq, U.alls5_app, U.alls5_cons, e1]; simp [List.append_assoc]
    · rw [s.wth h, U.all5_eq, show ({ u with kids := a ++ U.wth i f k :: b } : U).k5 = u.k5 from rfl]
      simp only
      rw [U.alls5_app, U.alls5_cons, e2]; simp [List.append_assoc]
theorem k5_ins {u : U} (hn : u.ids.Nodup) {q : Idd} (hq : q ∈ u.ids) (k : Nat) (x : U) : ∃ A B, u.all5 = A ++ B ∧ (U.wth q (fun y => { y with kids := insAt y.kids k x }) u).all5 = A ++ (x.all5 ++ B) := by
  obtain ⟨l, r, e1, e2⟩ := k5_wth (f := fun y => { y with kids := insAt y.kids k x }) u hn hq
  refine ⟨l ++ ((fnd q u).k5 :: U.alls5 ((fnd q u).kids.take k)), U.alls5 ((fnd q u).kids.drop k) ++ r, ?_, ?_⟩
  · rw [e1, U.all5_eq]
    conv => lhs; rw [← List.take_append_drop k (fnd q u).kids]
    rw [U.alls5_app]; simp [List.append_assoc]
  · rw [e2, U.all5_eq, show ({ fnd q u with kids := insAt (fnd q u).kids k x } : U).k5 = (fnd q u).k5 from rfl]
    unfold insAt
    simp only
    rw [U.alls5_app, U.alls5_cons]; simp [List.append_assoc]
theorem k5_del {u : U} (hn : u.ids.Nodup) {i : Idd} (hi : i ∈ u.ids) (hne : u.id ≠ i) : ∃ A B, u.all5 = A ++ ((fnd i u).all5 ++ B) ∧ (without i u).all5 = A ++ B := by
  obtain ⟨own, d, j, w1, w2, hp⟩ := par_some hn hi hne
  obtain ⟨a, x, b, s, hx, hj, hl⟩ := hp.split
  have hfx : fnd i u = x := fnd_last hl
  subst hj
  have hW : without i u = U.wth own.id (fun y => { y with kids := delAt y.kids a.length }) u := by unfold without; rw [w1]
  rw [hW, hfx]
  obtain ⟨l, r, e1, e2⟩ := k5_wth (f := fun y => { y with kids := delAt y.kids a.length }) u hn hp.mem
  rw [hp.fnd] at e1 e2
  rw [s.eq, delAt_split] at e2
  refine ⟨l ++ (own.k5 :: U.alls5 a), U.alls5 b ++ r, ?_, ?_⟩
  · rw [e1, U.all5_eq, s.eq, U.alls5_app, U.alls5_cons]; simp [List.append_assoc]
  · rw [e2, U.all5_eq, show ({ own with kids := a ++ b } : U).k5 = own.k5 from rfl]
    simp only
    rw [U.alls5_app]; simp [List.append_assoc]
theorem k5_inner {u : U} (hn : u.ids.Nodup) {i : Idd} (hi : i ∈ u.ids) {f : U → U} (hf : ∀ y, (f y).kids = y.kids) : ∃ A B, u.all5 = A ++ ((fnd i u).k5 :: B) ∧ (U.wth i f u).all5 = A ++ ((f (fnd i u)).k5 :: B) := by
  obtain ⟨l, r, e1, e2⟩ := k5_wth (f := f) u hn hi
  refine ⟨l, U.alls5 (fnd i u).kids ++ r, ?_, ?_⟩
  · rw [e1, U.all5_eq]; simp
  · rw [e2, U.all5_eq, hf]; simp

/-! ### an item that fails changes nothing -/
theorem insP_err {u : U} {i : Idd} {d : Dd} (h : (insP u i d).2 ≠ 0) : (insP u i d).1 = u := by
  unfold insP at h ⊢
  (repeat' split) <;> (try rfl)
  all_goals (exfalso; simp_all)
theorem movP_err {u : U} {i t : Idd} {d : Dd} (h : (movP u i t d).2 ≠ 0) : (movP u i t d).1 = u := by
  unfold movP at h ⊢
  (repeat' split) <;> (try rfl)
  all_goals (exfalso; simp_all)
theorem doP_err {u : U} {d : Dd} (h : (doP u d).2 ≠ 0) : (doP u d).1 = u := by
  unfold doP at h ⊢
  split
  · rfl
  rename_i c1
  rw [if_neg c1] at h
  split
  · rfl
  rename_i c2
  rw [if_neg c2] at h
  split
  · rename_i c3
    rw [if_pos c3] at h
    exact insP_err h
  rename_i c3
  rw [if_neg c3] at h
  split
  · split <;> rfl
  rename_i c4
  rw [if_neg c4] at h
  split
  · rename_i c5
    rw [if_pos c5] at h; exact absurd rfl h
  rename_i c5
  rw [if_neg c5] at h
  split
  · rename_i c6
    rw [if_pos c6] at h
    split
    · rfl
    · rename_i c7; rw [if_neg c7] at h; exact absurd rfl h
  rename_i c6
  rw [if_neg c6] at h
  split
  · rename_i c7
    rw [if_pos c7] at h; exact absurd rfl h
  rename_i c7
  rw [if_neg c7] at h
  split
  · rename_i c8
    rw [if_pos c8] at h
    split
    · rfl
    · rename_i c9; rw [if_neg c9] at h; exact absurd rfl h
  rename_i c8
  rw [if_neg c8] at h
  split
  · rfl
  rename_i c9
  rw [if_neg c9] at h
  exact movP_err h

inductive Did (u : U) (d : Dd) (i : Idd) (v : U) : Prop
  | ins (A B : List K5) (k : d.it.kind = 0) (e1 : u.all5 = A ++ B) (e2 : v.all5 = A ++ ((stampU d.it.unit d.act d.item).all5 ++ B)) (no : ∀ j ∈ (stampU d.it.unit d.act d.item).ids, j ∉ u.ids)
  | del (A B : List K5) (k : d.it.kind = 1) (e1 : u.all5 = A ++ ((fnd i u).all5 ++ B)) (e2 : v.all5 = A ++ B)
  | words (A B : List K5) (k : d.it.kind = 2 ∨ d.it.kind = 3) (e1 : u.all5 = A ++ ((fnd i u).k5 :: B)) (e2 : v.all5 = A ++ (({ fnd i u with words := (editE (fnd i u).words d.it d.act d.item).1 } : U).k5 :: B)) (ok : (editE (fnd i u).words d.it d.act d.item).2 = 0)
  | head (A B : List K5) (k : d.it.kind = 4) (e1 : u.all5 = A ++ ((fnd i u).k5 :: B)) (e2 : v.all5 = A ++ (({ fnd i u with head := markW d.act d.item d.it.new 0 } : U).k5 :: B))
  | label (A B : List K5) (k : d.it.kind = 5) (e1 : u.all5 = A ++ ((fnd i u).k5 :: B)) (e2 : v.all5 = A ++ (({ fnd i u with label := d.it.label } : U).k5 :: B))
  | move (A B C D : List K5) (k : d.it.kind = 6) (e1 : u.all5 = A ++ ((fnd i u).all5 ++ B)) (e2 : v.all5 = C ++ ((fnd i u).all5 ++ D)) (e3 : A ++ B = C ++ D)

theorem mov_did {u : U} (h : Good u) {i t : Idd} (hi : i ∈ u.ids) (hne : u.id ≠ i) (ht : t ∈ u.ids) {d : Dd} (h0 : 0 ≤ d.it.wh) (h3 : d.it.wh ≤ 3) (hk : d.it.kind = 6) (hok : (movP u i t d).2 = 0) : Did u d i (movP u i t d).1 := by
  obtain ⟨A, B, e1, e2⟩ := k5_del h.nd hi hne
  obtain ⟨g1, g2, g3, A', B', hA, f1, f2⟩ := good_del h hi hne
  obtain ⟨own, dO, j, w1, w2, hp⟩ := par_some h.nd hi hne
  obtain ⟨a, x, b, s, hx, hj, hl⟩ := hp.split
  have hfx : fnd i u = x := fnd_last hl
  unfold movP at hok ⊢
  split at hok
  · cases hok
  · rename_i q k e
    split at hok
    · rename_i c; exact absurd hok c
    · rename_i htk
      split at hok
      · cases hok
      · rename_i hf
        rw [if_neg htk, if_neg hf]
        have hq : q ∈ (without i u).ids := by
          have hqu : q ∈ u.ids ∧ q ∉ (fnd i u).ids := by
            unfold goesP at e
            rw [w1] at e
            simp only at e
            split at e
            · cases e
            · rename_i hc
              rw [not_or] at hc
              split at e
              · injection e with e; injection e with e3 e4
                subst e3
                refine ⟨hp.mem, ?_⟩
                rw [hfx]
                have := (U.nd_kids hp.nd).2
                rw [s.eq, U.idss_app, U.idss_cons] at this
                exact fun hm => this (List.mem_append.2 (.inr (List.mem_append.2 (.inl hm))))
              · rename_i hti
                obtain ⟨⟨q', k'⟩, e5, e6⟩ := Option.map_eq_some_iff.1 e
                injection e6 with e7 e8
                subst e7
                have hr : ¬ (besides d.it.wh = true ∧ t = u.id) := by
                  rintro ⟨r1, r2⟩
                  have hh : d.it.wh = 2 ∨ d.it.wh = 3 := by simpa [besides] using r1
                  unfold spot at e5
                  rw [wayPar_here r2.symm] at e5
                  rcases hh with hh | hh <;> simp [hh] at e5
                obtain ⟨P, dp, k2, hg⟩ := goal_of h.nd ht h0 h3 hr
                have := hg.spot
                rw [e5] at this
                injection this with this
                injection this with e9 e10
                simp only at e9 ⊢
                rw [e9]
                refine ⟨hg.mem, hg.out i hi fun hm => ?_⟩
                exact hc.1 ((under_iff u h.nd ht hi).2 ⟨hti, hm⟩)
          rw [f2]
          have := hqu.1
          rw [f1] at this
          rcases List.mem_append.1 this with hm | hm
          · exact List.mem_append.2 (.inl hm)
          · rcases List.mem_append.1 hm with hm | hm
            · exact absurd hm hqu.2
            · exact List.mem_append.2 (.inr hm)
        obtain ⟨C, D, e5, e6⟩ := k5_ins g1.nd hq k (fnd i u)
        exact .move A B C D hk e1 e6 (by rw [← e2, ← e5])

theorem do_did {u : U} (h : Good u) (d : Dd) (hok : (doP u d).2 = 0) : d.it.may = true ∧ chg d.it.kind = true ∧ (one u d.it.at_).2 = 0 ∧ (d.it.kind ≠ 0 → (one u d.it.at_).1 ≠ u.id) ∧ Did u d (one u d.it.at_).1 (doP u d).1 := by
  unfold doP at hok ⊢
  split at hok
  · cases hok
  rename_i c1
  rw [if_neg c1]
  have hm : d.it.may = true := by cases hh : d.it.may <;> simp_all
  have hc : chg d.it.kind = true := by cases hh : chg d.it.kind <;> simp_all
  split at hok
  · rename_i c2; exact absurd hok c2
  rename_i c2
  rw [if_neg c2]
  have h2 : (one u d.it.at_).2 = 0 := by simpa using c2
  have hi := one_mem (u := u) (p := d.it.at_) h2
  refine ⟨hm, hc, h2, ?_⟩
  obtain ⟨i, hie⟩ : ∃ i, (one u d.it.at_).1 = i := ⟨_, rfl⟩
  rw [hie] at hi hok ⊢
  split at hok
  · rename_i k0
    refine ⟨fun h => absurd k0 h, ?_⟩
    rw [if_pos k0]
    unfold insP at hok ⊢
    split at hok
    · cases hok
    · rename_i q k e
      split at hok
      · rename_i c; exact absurd hok c
      · rename_i c3
        rw [if_neg c3]
        split at hok
        · cases hok
        · rename_i c4
          rw [if_neg c4]
          split at hok
          · cases hok
          · rename_i c5
            rw [if_neg c5]
            obtain ⟨A, B, e1, e2⟩ := k5_ins h.nd (spot_mem h.nd hi e) k (stampU d.it.unit d.act d.item)
            exact .ins A B k0 e1 e2 fun y hy hyu => c5 (List.any_eq_true.2 ⟨y, hy, decide_eq_true hyu⟩)
  rename_i k0
  rw [if_neg k0]
  split at hok
  · split at hok
    · rename_i c; exact absurd hok c.2
    · cases hok
  rename_i hiu
  rw [if_neg hiu]
  have hne : u.id ≠ i := fun e => hiu e.symm
  refine ⟨fun _ => hiu, ?_⟩
  split at hok
  · rename_i k1
    rw [if_pos k1]
    obtain ⟨A, B, e1, e2⟩ := k5_del h.nd hi hne
    exact .del A B k1 e1 e2
  rename_i k1
  rw [if_neg k1]
  split at hok
  · rename_i k2
    rw [if_pos k2]
    split at hok
    · rename_i c; exact absurd hok c
    · rename_i he
      rw [if_neg he]
      obtain ⟨A, B, e1, e2⟩ := k5_inner h.nd hi (f := fun y => { y with words := (editE (fnd i u).words d.it d.act d.item).1 }) (fun _ => rfl)
      exact .words A B k2 e1 e2 (by simpa using he)
  rename_i k2
  rw [if_neg k2]
  split at hok
  · rename_i k4
    rw [if_pos k4]
    obtain ⟨A, B, e1, e2⟩ := k5_inner h.nd hi (f := fun y => { y with head := markW d.act d.item d.it.new 0 }) (fun _ => rfl)
    exact .head A B k4 e1 e2
  rename_i k4
  rw [if_neg k4]
  split at hok
  · rename_i k5
    rw [if_pos k5]
    split at hok
    · cases hok
    · rename_i he
      rw [if_neg he]
      obtain ⟨A, B, e1, e2⟩ := k5_inner h.nd hi (f := fun y => { y with label := d.it.label }) (fun _ => rfl)
      exact .label A B k5 e1 e2
  rename_i k5
  rw [if_neg k5]
  split at hok
  · rename_i c; exact absurd hok c
  rename_i c7
  rw [if_neg c7]
  have ht := one_mem (u := u) (p := d.it.to_) (by simpa using c7)
  have hk6 : d.it.kind = 6 := by
    simp only [chg, Bool.and_eq_true, decide_eq_true_eq] at hc
    omega
  have hw := may_where hm (.inr hk6)
  exact mov_did h hi hne ht hw.1 hw.2 hk6 hok

end Go.Av
end

section
namespace Go.Av
open Go Go.RowKit Go.Proofs
set_option linter.unusedSimpArgs false
set_option linter.unusedVariables false

end Go.Av
end
