/-
  ENACT, 14: what an item leaves as it was.
-/
import Derived.Test.YtcecmifknojgeaaGreatDoorXE12toXL27
import Derived.Test.YtcecmifknojgeaaGreatDoorXM2toXM9
section
namespace Go.Av
open Go Go.RowKit Go.Proofs
set_option linter.unusedSimpArgs false
set_option linter.unusedVariables false

abbrev K5 := Idd × Int × List UInt8 × List Wd × List Wd
def U.k5 (y : U) : K5 := (y.id, y.kind, y.label, y.head, y.words)
def U.all5 (u : U) : List K5 := u.flat.map U.k5
def U.alls5 (us : List U) : List K5 := (U.flats us).map U.k5
theorem U.all5_eq (u : U) : u.all5 = u.k5 :: U.alls5 u.kids := by unfold U.all5 U.alls5; rw [U.flat_eq]; rfl
theorem U.alls5_nil : U.alls5 [] = [] := by unfold U.alls5; rw [flats_nil]; rfl
theorem U.alls5_cons (u : U) (us : List U) : U.alls5 (u :: us) = u.all5 ++ U.alls5 us := by unfold U.alls5 U.all5; rw [flats_cons, List.map_append]
theorem U.alls5_app (a b : List U) : U.alls5 (a ++ b) = U.alls5 a ++ U.alls5 b := by unfold U.alls5; rw [flats_app, List.map_append]
theorem U.ids_k5 (u : U) : u.ids = u.all5.map (·.1) := by unfold U.ids U.all5; rw [List.map_map]; rfl
theorem k5_wth {i : Idd} {f : U → U} (u : U) (hn : u.ids.Nodup) (hi : i ∈ u.ids) : ∃ l r, u.all5 = l ++ ((fnd i u).all5 ++ r) ∧ (U.wth i f u).all5 = l ++ ((f (fnd i u)).all5 ++ r) := by
  refine U.wayInd (i := i) (p := fun u => ∃ l r, u.all5 = l ++ ((fnd i u).all5 ++ r) ∧ (U.wth i f u).all5 = l ++ ((f (fnd i u)).all5 ++ r)) ?_ ?_ u hn hi
  · intro u _ h
    have e : fnd i u = u := fnd_last (by rw [way_here h]; rfl)
    refine ⟨[], [], ?_, ?_⟩
    · rw [e]; simp
    · rw [wth_here h, e]; simp
  · intro u a k b hn h s ⟨l, r, e1, e2⟩
    rw [s.fnd hn s.mem]
    refine ⟨u.k5 :: (U.alls5 a ++ l), r ++ U.alls5 b, ?_, ?_⟩
    · rw [U.all5_eq, s.eq, U.alls5_app, U.alls5_cons, e1]; simp [List.append_assoc]
    · rw [s.wth h, U.all5_eq, show ({ u with kids := a ++ U.wth i f k :: b } : U).k5 = u.k5 from rfl]
      simp only
      rw [U.alls5_app, U.alls5_cons, e2]; simp [List.append_assoc]
theorem k5_ins {u : U} (hn : u.ids.Nodup) {q : Idd} (hq : q ∈ u.ids) (k : Nat) (x : U) : ∃ A B, u.all5 = A ++ B ∧ (U.wth q (fun y => { y with kids := insAt y.kids k x }) u).all5 = A ++ (x.all5 ++ B) := by
  obtain ⟨l, r, e1, e2⟩ := k5_wth (f := fun y => { y with kids := insAt y.kids k x }) u hn hq
  refine ⟨l ++ ((fnd q u).k5 :: U.alls5 ((fnd q u).kids.take k)), U.alls5 ((fnd q u).kids.drop k) ++ r, ?_, ?_⟩
  · rw [e1, U.all5_eq]
    conv => lhs; rw [← List.take_append_drop k (fnd q u).kids]
    rw [U.alls5_app]; simp [List.append_assoc]
  · rw [e2, U.all5_eq, show ({ fnd q u with kids := insAt (fnd q u).kids k x } : U).k5 = (fnd q u).k5 from rfl]
    unfold insAt
    simp only
    rw [U.alls5_app, U.alls5_cons]; simp [List.append_assoc]
theorem k5_del {u : U} (hn : u.ids.Nodup) {i : Idd} (hi : i ∈ u.ids) (hne : u.id ≠ i) : ∃ A B, u.all5 = A ++ ((fnd i u).all5 ++ B) ∧ (without i u).all5 = A ++ B := by
  obtain ⟨own, d, j, w1, w2, hp⟩ := par_some hn hi hne
  obtain ⟨a, x, b, s, hx, hj, hl⟩ := hp.split
  have hfx : fnd i u = x := fnd_last hl
  subst hj
  have hW : without i u = U.wth own.id (fun y => { y with kids := delAt y.kids a.length }) u := by unfold without; rw [w1]
  rw [hW, hfx]
  obtain ⟨l, r, e1, e2⟩ := k5_wth (f := fun y => { y with kids := delAt y.kids a.length }) u hn hp.mem
  rw [hp.fnd] at e1 e2
  rw [s.eq, delAt_split] at e2
  refine ⟨l ++ (own.k5 :: U.alls5 a), U.alls5 b ++ r, ?_, ?_⟩
  · rw [e1, U.all5_eq, s.eq, U.alls5_app, U.alls5_cons]; simp [List.append_assoc]
  · rw [e2, U.all5_eq, show ({ own with kids := a ++ b } : U).k5 = own.k5 from rfl]
    simp only
    rw [U.alls5_app]; simp [List.append_assoc]
theorem k5_inner {u : U} (hn : u.ids.Nodup) {i : Idd} (hi : i ∈ u.ids) {f : U → U} (hf : ∀ y, (f y).kids = y.kids) : ∃ A B, u.all5 = A ++ ((fnd i u).k5 :: B) ∧ (U.wth i f u).all5 = A ++ ((f (fnd i u)).k5 :: B) := by
  obtain ⟨l, r, e1, e2⟩ := k5_wth (f := f) u hn hi
  refine ⟨l, U.alls5 (fnd i u).kids ++ r, ?_, ?_⟩
  · rw [e1, U.all5_eq]; simp
  · rw [e2, U.all5_eq, hf]; simp

/-! ### an item that fails changes nothing -/
theorem insP_err {u : U} {i : Idd} {d : Dd} (h : (insP u i d).2 ≠ 0) : (insP u i d).1 = u := by
  unfold insP at h ⊢
  (repeat' split) <;> (try rfl)
  all_goals (exfalso; simp_all)
theorem movP_err {u : U} {i t : Idd} {d : Dd} (h : (movP u i t d).2 ≠ 0) : (movP u i t d).1 = u := by
  unfold movP at h ⊢
  (repeat' split) <;> (try rfl)
  all_goals (exfalso; simp_all)
theorem doP_err {u : U} {d : Dd} (h : (doP u d).2 ≠ 0) : (doP u d).1 = u := by
  unfold doP at h ⊢
  split
  · rfl
  rename_i c1
  rw [if_neg c1] at h
  split
  · rfl
  rename_i c2
  rw [if_neg c2] at h
  split
  · rename_i c3
    rw [if_pos c3] at h
    exact insP_err h
  rename_i c3
  rw [if_neg c3] at h
  split
  · split <;> rfl
  rename_i c4
  rw [if_neg c4] at h
  split
  · rename_i c5
    rw [if_pos c5] at h; exact absurd rfl h
  rename_i c5
  rw [if_neg c5] at h
  split
  · rename_i c6
    rw [if_pos c6] at h
    split
    · rfl
    · rename_i c7; rw [if_neg c7] at h; exact absurd rfl h
  rename_i c6
  rw [if_neg c6] at h
  split
  · rename_i c7
    rw [if_pos c7] at h; exact absurd rfl h
  rename_i c7
  rw [if_neg c7] at h
  split
  · rename_i c8
    rw [if_pos c8] at h
    split
    · rfl
    · rename_i c9; rw [if_neg c9] at h; exact absurd rfl h
  rename_i c8
  rw [if_neg c8] at h
  split
  · rfl
  rename_i c9
  rw [if_neg c9] at h
  exact movP_err h

inductive Did (u : U) (d : Dd) (i : Idd) (v : U) : Prop
  | ins (A B : List K5) (k : d.it.kind = 0) (e1 : u.all5 = A ++ B) (e2 : v.all5 = A ++ ((stampU d.it.unit d.act d.item).all5 ++ B)) (no : ∀ j ∈ (stampU d.it.unit d.act d.item).ids, j ∉ u.ids)
  | del (A B : List K5) (k : d.it.kind = 1) (e1 : u.all5 = A ++ ((fnd i u).all5 ++ B)) (e2 : v.all5 = A ++ B)
  | words (A B : List K5) (k : d.it.kind = 2 ∨ d.it.kind = 3) (e1 : u.all5 = A ++ ((fnd i u).k5 :: B)) (e2 : v.all5 = A ++ (({ fnd i u with words := (editE (fnd i u).words d.it d.act d.item).1 } : U).k5 :: B)) (ok : (editE (fnd i u).words d.it d.act d.item).2 = 0)
  | head (A B : List K5) (k : d.it.kind = 4) (e1 : u.all5 = A ++ ((fnd i u).k5 :: B)) (e2 : v.all5 = A ++ (({ fnd i u with head := markW d.act d.item d.it.new 0 } : U).k5 :: B))
  | label (A B : List K5) (k : d.it.kind = 5) (e1 : u.all5 = A ++ ((fnd i u).k5 :: B)) (e2 : v.all5 = A ++ (({ fnd i u with label := d.it.label } : U).k5 :: B))
  | move (A B C D : List K5) (k : d.it.kind = 6) (e1 : u.all5 = A ++ ((fnd i u).all5 ++ B)) (e2 : v.all5 = C ++ ((fnd i u).all5 ++ D)) (e3 : A ++ B = C ++ D)

theorem mov_did {u : U} (h : Good u) {i t : Idd} (hi : i ∈ u.ids) (hne : u.id ≠ i) (ht : t ∈ u.ids) {d : Dd} (h0 : 0 ≤ d.it.wh) (h3 : d.it.wh ≤ 3) (hk : d.it.kind = 6) (hok : (movP u i t d).2 = 0) : Did u d i (movP u i t d).1 := by
  obtain ⟨A, B, e1, e2⟩ := k5_del h.nd hi hne
  obtain ⟨g1, g2, g3, A', B', hA, f1, f2⟩ := good_del h hi hne
  obtain ⟨own, dO, j, w1, w2, hp⟩ := par_some h.nd hi hne
  obtain ⟨a, x, b, s, hx, hj, hl⟩ := hp.split
  have hfx : fnd i u = x := fnd_last hl
  unfold movP at hok ⊢
  split at hok
  · cases hok
  · rename_i q k e
    split at hok
    · rename_i c; exact absurd hok c
    · rename_i htk
      split at hok
      · cases hok
      · rename_i hf
        rw [if_neg htk, if_neg hf]
        have hq : q ∈ (without i u).ids := by
          have hqu : q ∈ u.ids ∧ q ∉ (fnd i u).ids := by
            unfold goesP at e
            rw [w1] at e
            simp only at e
            split at e
            · cases e
            · rename_i hc
              rw [not_or] at hc
              split at e
              · injection e with e; injection e with e3 e4
                subst e3
                refine ⟨hp.mem, ?_⟩
                rw [hfx]
                have := (U.nd_kids hp.nd).2
                rw [s.eq, U.idss_app, U.idss_cons] at this
                exact fun hm => this (List.mem_append.2 (.inr (List.mem_append.2 (.inl hm))))
              · rename_i hti
                obtain ⟨⟨q', k'⟩, e5, e6⟩ := Option.map_eq_some_iff.1 e
                injection e6 with e7 e8
                subst e7
                have hr : ¬ (besides d.it.wh = true ∧ t = u.id) := by
                  rintro ⟨r1, r2⟩
                  have hh : d.it.wh = 2 ∨ d.it.wh = 3 := by simpa [besides] using r1
                  unfold spot at e5
                  rw [wayPar_here r2.symm] at e5
                  rcases hh with hh | hh <;> simp [hh] at e5
                obtain ⟨P, dp, k2, hg⟩ := goal_of h.nd ht h0 h3 hr
                have := hg.spot
                rw [e5] at this
                injection this with this
                injection this with e9 e10
                simp only at e9 ⊢
                rw [e9]
                refine ⟨hg.mem, hg.out i hi fun hm => ?_⟩
                exact hc.1 ((under_iff u h.nd ht hi).2 ⟨hti, hm⟩)
          rw [f2]
          have := hqu.1
          rw [f1] at this
          rcases List.mem_append.1 this with hm | hm
          · exact List.mem_append.2 (.inl hm)
          · rcases List.mem_append.1 hm with hm | hm
            · exact absurd hm hqu.2
            · exact List.mem_append.2 (.inr hm)
        obtain ⟨C, D, e5, e6⟩ := k5_ins g1.nd hq k (fnd i u)
        exact .move A B C D hk e1 e6 (by rw [← e2, ← e5])

theorem do_did {u : U} (h : Good u) (d : Dd) (hok : (doP u d).2 = 0) : d.it.may = true ∧ chg d.it.kind = true ∧ (one u d.it.at_).2 = 0 ∧ (d.it.kind ≠ 0 → (one u d.it.at_).1 ≠ u.id) ∧ Did u d (one u d.it.at_).1 (doP u d).1 := by
  unfold doP at hok ⊢
  split at hok
  · cases hok
  rename_i c1
  rw [if_neg c1]
  have hm : d.it.may = true := by cases hh : d.it.may <;> simp_all
  have hc : chg d.it.kind = true := by cases hh : chg d.it.kind <;> simp_all
  split at hok
  · rename_i c2; exact absurd hok c2
  rename_i c2
  rw [if_neg c2]
  have h2 : (one u d.it.at_).2 = 0 := by simpa using c2
  have hi := one_mem (u := u) (p := d.it.at_) h2
  refine ⟨hm, hc, h2, ?_⟩
  obtain ⟨i, hie⟩ : ∃ i, (one u d.it.at_).1 = i := ⟨_, rfl⟩
  rw [hie] at hi hok ⊢
  split at hok
  · rename_i k0
    refine ⟨fun h => absurd k0 h, ?_⟩
    rw [if_pos k0]
    unfold insP at hok ⊢
    split at hok
    · cases hok
    · rename_i q k e
      split at hok
      · rename_i c; exact absurd hok c
      · rename_i c3
        rw [if_neg c3]
        split at hok
        · cases hok
        · rename_i c4
          rw [if_neg c4]
          split at hok
          · cases hok
          · rename_i c5
            rw [if_neg c5]
            obtain ⟨A, B, e1, e2⟩ := k5_ins h.nd (spot_mem h.nd hi e) k (stampU d.it.unit d.act d.item)
            exact .ins A B k0 e1 e2 fun y hy hyu => c5 (List.any_eq_true.2 ⟨y, hy, decide_eq_true hyu⟩)
  rename_i k0
  rw [if_neg k0]
  split at hok
  · split at hok
    · rename_i c; exact absurd hok c.2
    · cases hok
  rename_i hiu
  rw [if_neg hiu]
  have hne : u.id ≠ i := fun e => hiu e.symm
  refine ⟨fun _ => hiu, ?_⟩
  split at hok
  · rename_i k1
    rw [if_pos k1]
    obtain ⟨A, B, e1, e2⟩ := k5_del h.nd hi hne
    exact .del A B k1 e1 e2
  rename_i k1
  rw [if_neg k1]
  split at hok
  · rename_i k2
    rw [if_pos k2]
    split at hok
    · rename_i c; exact absurd hok c
    · rename_i he
      rw [if_neg he]
      obtain ⟨A, B, e1, e2⟩ := k5_inner h.nd hi (f := fun y => { y with words := (editE (fnd i u).words d.it d.act d.item).1 }) (fun _ => rfl)
      exact .words A B k2 e1 e2 (by simpa using he)
  rename_i k2
  rw [if_neg k2]
  split at hok
  · rename_i k4
    rw [if_pos k4]
    obtain ⟨A, B, e1, e2⟩ := k5_inner h.nd hi (f := fun y => { y with head := markW d.act d.item d.it.new 0 }) (fun _ => rfl)
    exact .head A B k4 e1 e2
  rename_i k4
  rw [if_neg k4]
  split at hok
  · rename_i k5
    rw [if_pos k5]
    split at hok
    · cases hok
    · rename_i he
      rw [if_neg he]
      obtain ⟨A, B, e1, e2⟩ := k5_inner h.nd hi (f := fun y => { y with label := d.it.label }) (fun _ => rfl)
      exact .label A B k5 e1 e2
  rename_i k5
  rw [if_neg k5]
  split at hok
  · rename_i c; exact absurd hok c
  rename_i c7
  rw [if_neg c7]
  have ht := one_mem (u := u) (p := d.it.to_) (by simpa using c7)
  have hk6 : d.it.kind = 6 := by
    simp only [chg, Bool.and_eq_true, decide_eq_true_eq] at hc
    omega
  have hw := may_where hm (.inr hk6)
  exact mov_did h hi hne ht hw.1 hw.2 hk6 hok

end Go.Av
end

section
namespace Go.Av
open Go Go.RowKit Go.Proofs
set_option linter.unusedSimpArgs false
set_option linter.unusedVariables false

def Wd.by3 (w : Wd) : Idd := ⟨w.act, w.item, w.at_⟩
def marks5 (k : K5) : List Idd := k.2.2.2.1.map Wd.by3 ++ k.2.2.2.2.map Wd.by3
def marks (L : List K5) : List Idd := L.flatMap marks5
theorem marks_cons (k : K5) (L : List K5) : marks (k :: L) = marks5 k ++ marks L := by simp [marks]
theorem marks_app (A B : List K5) : marks (A ++ B) = marks A ++ marks B := by simp [marks]
theorem mem_idRow {a b n : Int} {k : Nat} {i : Idd} : i ∈ idRow a b n k ↔ i.act = a ∧ i.item = b ∧ n ≤ i.n ∧ i.n < n + k := by
  unfold idRow
  rw [List.mem_map]
  constructor
  · rintro ⟨j, hj, rfl⟩
    have := List.mem_range.1 hj
    exact ⟨rfl, rfl, by simp only; omega, by simp only; omega⟩
  · rintro ⟨h1, h2, h3, h4⟩
    refine ⟨(i.n - n).toNat, List.mem_range.2 (by omega), ?_⟩
    obtain ⟨x, y, z⟩ := i
    simp only at h1 h2 h3 h4 ⊢
    subst h1 h2
    congr 1
    omega
theorem mark_by3 (a b : Int) : ∀ (l : List (List UInt8)) (m : Int), (markW a b l m).map Wd.by3 = idRow a b m l.length
  | [], m => rfl
  | s :: l, m => by
    rw [markW, List.map_cons, mark_by3 a b l (m + 1), List.length_cons, Nat.add_comm, idRow_app]
    simp [idRow, Wd.by3]
theorem stamp_marks (a b : Int) : ∀ (u : U) (n m : Int), marks (U.stamp a b u n m).1.all5 = idRow a b m u.wt := by
  refine U.ind fun u ih n m => ?_
  have h : ∀ (us : List U), (∀ k ∈ us, ∀ n m, marks (U.stamp a b k n m).1.all5 = idRow a b m k.wt) → ∀ n m, marks (U.alls5 (U.stamps a b us n m).1) = idRow a b m (U.wts us) := by
    intro us
    induction us with
    | nil => intro _ n m; rw [U.stamps_nil, U.wts_nil, U.alls5_nil]; rfl
    | cons x us ihu =>
      intro h n m
      rw [U.stamps_cons]
      simp only
      rw [U.alls5_cons, marks_app, h x (by simp), ihu (fun k hk => h k (by simp [hk])), stamp_next, U.wts_cons, idRow_app]
  rw [U.stamp_eq, U.all5_eq, marks_cons]
  simp only [U.k5, marks5]
  rw [h u.kids ih, mark_by3, mark_by3, List.length_map, List.length_map, U.wt_eq, idRow_app, idRow_app]
  congr 2
  omega

theorem nodup_swap {α : Type} {A W B E : List α} {p : α → Prop} (h : (A ++ (W ++ B)).Nodup) (hE : E.Nodup) (hm : ∀ x ∈ E, x ∈ W ∨ p x) (hp : ∀ x, x ∈ A ∨ x ∈ B → ¬ p x) : (A ++ (E ++ B)).Nodup := by
  obtain ⟨h1, h2, h3⟩ := List.nodup_append.1 h
  obtain ⟨h4, h5, h6⟩ := List.nodup_append.1 h2
  refine List.nodup_append.2 ⟨h1, List.nodup_append.2 ⟨hE, h5, ?_⟩, ?_⟩
  · intro x hx y hy e
    subst e
    rcases hm x hx with hw | hw
    · exact h6 x hw x hy rfl
    · exact hp x (.inr hy) hw
  · intro x hx y hy e
    subst e
    rcases List.mem_append.1 hy with hy | hy
    · rcases hm x hy with hw | hw
      · exact h3 x hx x (List.mem_append.2 (.inl hw)) rfl
      · exact hp x (.inl hx) hw
    · exact h3 x hx x (List.mem_append.2 (.inr hy)) rfl

theorem mem_by3_drop {w : List Wd} {s t : Nat} (h : s ≤ t) {y : Idd} (hy : y ∈ (w.drop t).map Wd.by3) : y ∈ (w.drop s).map Wd.by3 := by
  obtain ⟨z, hz, rfl⟩ := List.mem_map.1 hy
  refine List.mem_map.2 ⟨z, ?_, rfl⟩
  rw [show t = s + (t - s) by omega, ← List.drop_drop] at hz
  exact List.mem_of_mem_drop hz
theorem editD_marks {w : List Wd} {fresh : List (List UInt8)} {a b : Int} {gone : Nat} (hw : (w.map Wd.by3).Nodup) (hno : ∀ y ∈ w.map Wd.by3, ¬ (y.act = a ∧ y.item = b)) :
    ∀ (ps : List Nat) (s : Nat) (m : Int), Gaps w.length gone s ps → ((editD w fresh a b gone s ps m).map Wd.by3).Nodup ∧ ∀ y ∈ (editD w fresh a b gone s ps m).map Wd.by3, y ∈ (w.drop s).map Wd.by3 ∨ (y.act = a ∧ y.item = b ∧ m ≤ y.n)
  | [], s, m, _ => by
    rw [editD]
    exact ⟨hw.sublist ((List.drop_sublist s w).map _), fun y hy => .inl hy⟩
  | p :: ps, s, m, ⟨h1, h2, h3⟩ => by
    obtain ⟨i1, i2⟩ := editD_marks hw hno ps (p + gone) (m + fresh.length) h3
    rw [editD, List.map_append, List.map_append, mark_by3]
    have hin : ∀ y ∈ (w.drop s).map Wd.by3, y ∈ w.map Wd.by3 := fun y hy => by
      obtain ⟨z, hz, rfl⟩ := List.mem_map.1 hy
      exact List.mem_map.2 ⟨z, List.mem_of_mem_drop hz, rfl⟩
    have hX : ∀ y ∈ ((w.take p).drop s).map Wd.by3, y ∈ (w.take p).map Wd.by3 ∧ y ∈ (w.drop s).map Wd.by3 := fun y hy => by
      obtain ⟨z, hz, rfl⟩ := List.mem_map.1 hy
      refine ⟨List.mem_map.2 ⟨z, List.mem_of_mem_drop hz, rfl⟩, List.mem_map.2 ⟨z, ?_, rfl⟩⟩
      rw [List.drop_take] at hz
      exact List.mem_of_mem_take hz
    have hsplit : w.map Wd.by3 = (w.take p).map Wd.by3 ++ (w.drop p).map Wd.by3 := by rw [← List.map_append, List.take_append_drop]
    have hw2 := hw
    rw [hsplit] at hw2
    obtain ⟨_, _, hd⟩ := List.nodup_append.1 hw2
    refine ⟨List.nodup_append.2 ⟨hw.sublist (((List.drop_sublist s _).trans (List.take_sublist p w)).map _), List.nodup_append.2 ⟨idRow_nd _ _ _ _, i1, ?_⟩, ?_⟩, ?_⟩
    · intro x hx y hy e
      subst e
      obtain ⟨q1, q2, q3, q4⟩ := mem_idRow.1 hx
      rcases i2 x hy with hz | ⟨_, _, hz⟩
      · exact hno x (hin x (mem_by3_drop (by omega) hz)) ⟨q1, q2⟩
      · omega
    · intro x hx y hy e
      subst e
      obtain ⟨x1, x2⟩ := hX x hx
      rcases List.mem_append.1 hy with hy | hy
      · obtain ⟨q1, q2, q3, q4⟩ := mem_idRow.1 hy
        exact hno x (hin x x2) ⟨q1, q2⟩
      · rcases i2 x hy with hz | ⟨q1, q2, hz⟩
        · exact hd x x1 x (mem_by3_drop (by omega) hz) rfl
        · exact hno x (hin x x2) ⟨q1, q2⟩
    · intro y hy
      rcases List.mem_append.1 hy with hy | hy
      · exact .inl (hX y hy).2
      · rcases List.mem_append.1 hy with hy | hy
        · obtain ⟨q1, q2, q3, q4⟩ := mem_idRow.1 hy
          exact .inr ⟨q1, q2, q3⟩
        · rcases i2 y hy with hz | ⟨q1, q2, hz⟩
          · exact .inl (mem_by3_drop (by omega) hz)
          · exact .inr ⟨q1, q2, by omega⟩
theorem editE_marks {w : List Wd} {x : Itm} {a b : Int} (hw : (w.map Wd.by3).Nodup) (hno : ∀ y ∈ w.map Wd.by3, ¬ (y.act = a ∧ y.item = b)) (h3 : x.kind = 3 ∨ x.old ≠ []) (ok : (editE w x a b).2 = 0) :
    ((editE w x a b).1.map Wd.by3).Nodup ∧ ∀ y ∈ (editE w x a b).1.map Wd.by3, y ∈ w.map Wd.by3 ∨ (y.act = a ∧ y.item = b) := by
  have main : ∀ gone ps, Gaps w.length gone 0 ps → ((editD w x.new a b gone 0 ps 0).map Wd.by3).Nodup ∧ ∀ y ∈ (editD w x.new a b gone 0 ps 0).map Wd.by3, y ∈ w.map Wd.by3 ∨ (y.act = a ∧ y.item = b) := by
    intro gone ps hg
    obtain ⟨i1, i2⟩ := editD_marks (fresh := x.new) hw hno ps 0 0 hg
    exact ⟨i1, fun y hy => (i2 y hy).imp (fun h => by simpa using h) fun h => ⟨h.1, h.2.1⟩⟩
  unfold editE at ok ⊢
  split at ok
  · rename_i c
    rw [if_pos c]
    split at ok
    · cases ok
    · rename_i c2
      rw [if_neg c2]
      rw [List.map_append, mark_by3]
      refine ⟨List.nodup_append.2 ⟨idRow_nd _ _ _ _, hw, ?_⟩, ?_⟩
      · intro p hp q hq e
        subst e
        obtain ⟨q1, q2, q3, q4⟩ := mem_idRow.1 hp
        exact hno p hq ⟨q1, q2⟩
      · intro y hy
        rcases List.mem_append.1 hy with hy | hy
        · obtain ⟨q1, q2, q3, q4⟩ := mem_idRow.1 hy
          exact .inr ⟨q1, q2⟩
        · exact .inl hy
  · rename_i c
    have hr : x.old ≠ [] := by
      rcases h3 with h3 | h3
      · exact fun e => c ⟨h3, e⟩
      · exact h3
    have hg := chosen_gaps (nth := x.nth) (occs_gaps (w := w) hr)
    rw [if_neg c]
    split at ok
    · cases ok
    · rename_i c2
      rw [if_neg c2]
      split at ok
      · rename_i c4
        rw [if_pos c4]
        split at ok
        · cases ok
        · rename_i c5
          rw [if_neg c5]
          exact main _ _ (gaps_shift hg)
      · rename_i c4
        rw [if_neg c4]
        split at ok
        · cases ok
        · rename_i c5
          rw [if_neg c5]
          exact main _ _ hg

structure Inv (u : U) (S : List (Int × Int)) : Prop where
  nd : (marks u.all5).Nodup
  mks : ∀ m ∈ marks u.all5, (m.act, m.item) ∈ S
  id : ∀ k ∈ u.all5, k.2.1 ≠ 0 → (k.1.act, k.1.item) ∈ S
theorem may_old {x : Itm} (h : x.may = true) (hk : x.kind = 2) : x.old ≠ [] := by
  have := may_own h
  unfold Itm.own okRow at this
  simp [hk] at this
  rintro e
  rw [e] at this
  simp at this
theorem Inv.step {u : U} (h : Good u) {S : List (Int × Int)} (hi : Inv u S) (d : Dd) (hn : (d.act, d.item) ∉ S) : Inv (doP u d).1 ((d.act, d.item) :: S) := by
  by_cases hok : (doP u d).2 ≠ 0
  · rw [doP_err hok]
    exact ⟨hi.nd, fun m hm => List.mem_cons_of_mem _ (hi.mks m hm), fun k hk h0 => List.mem_cons_of_mem _ (hi.id k hk h0)⟩
  have hok : (doP u d).2 = 0 := by simpa using hok
  obtain ⟨hm, hc, h2, h3, hd⟩ := do_did h d hok
  have hii := one_mem (u := u) (p := d.it.at_) h2
  have hid := (fnd_id u h.nd hii).1
  generalize (one u d.it.at_).1 = i at *
  generalize (doP u d).1 = v at *
  have hfr : ∀ m ∈ marks u.all5, ¬ (m.act = d.act ∧ m.item = d.item) := by
    rintro m hm ⟨q1, q2⟩
    have := hi.mks m hm
    rw [q1, q2] at this
    exact hn this
  cases hd with
  | ins A B k e1 e2 no =>
    obtain ⟨s1, s2, s3, s4, s5⟩ := stampU_ok d.it.unit d.act d.item (may_unit hm k)
    have hmx : marks (stampU d.it.unit d.act d.item).all5 = idRow d.act d.item 0 d.it.unit.wt := stamp_marks _ _ _ _ _
    have hnd := hi.nd
    rw [e1, marks_app] at hnd
    refine ⟨?_, ?_, ?_⟩
    · rw [e2, marks_app, marks_app, hmx]
      refine nodup_swap (W := []) (p := fun m => m.act = d.act ∧ m.item = d.item) (by simpa using hnd) (idRow_nd _ _ _ _) (fun m hm => .inr ?_) (fun m hm => hfr m ?_)
      · obtain ⟨q1, q2, _⟩ := mem_idRow.1 hm; exact ⟨q1, q2⟩
      · rw [e1, marks_app]; exact List.mem_append.2 hm
    · intro m hm
      rw [e2, marks_app, marks_app, hmx] at hm
      rcases List.mem_append.1 hm with hm | hm
      · exact List.mem_cons_of_mem _ (hi.mks m (by rw [e1, marks_app]; exact List.mem_append.2 (.inl hm)))
      · rcases List.mem_append.1 hm with hm | hm
        · obtain ⟨q1, q2, _⟩ := mem_idRow.1 hm
          rw [q1, q2]; simp
        · exact List.mem_cons_of_mem _ (hi.mks m (by rw [e1, marks_app]; exact List.mem_append.2 (.inr hm)))
    · intro q hq h0
      rw [e2] at hq
      rcases List.mem_append.1 hq with hq | hq
      · exact List.mem_cons_of_mem _ (hi.id q (by rw [e1]; exact List.mem_append.2 (.inl hq)) h0)
      · rcases List.mem_append.1 hq with hq | hq
        · have : q.1 ∈ (stampU d.it.unit d.act d.item).ids := by rw [U.ids_k5]; exact List.mem_map.2 ⟨q, hq, rfl⟩
          rw [s1] at this
          obtain ⟨q1, q2, _⟩ := mem_idRow.1 this
          rw [q1, q2]; simp
        · exact List.mem_cons_of_mem _ (hi.id q (by rw [e1]; exact List.mem_append.2 (.inr hq)) h0)
  | del A B k e1 e2 =>
    have hsub : v.all5.Sublist u.all5 := by
      rw [e1, e2]
      exact (List.Sublist.refl A).append (List.sublist_append_right _ _)
    have hms : ∀ m ∈ marks v.all5, m ∈ marks u.all5 := fun m hm => by
      obtain ⟨q, hq, hm⟩ := List.mem_flatMap.1 hm
      exact List.mem_flatMap.2 ⟨q, hsub.subset hq, hm⟩
    refine ⟨?_, fun m hm => List.mem_cons_of_mem _ (hi.mks m (hms m hm)), fun q hq h0 => List.mem_cons_of_mem _ (hi.id q (hsub.subset hq) h0)⟩
    have := hi.nd
    rw [e1, marks_app, marks_app] at this
    rw [e2, marks_app]
    exact this.sublist ((List.Sublist.refl _).append (List.sublist_append_right _ _))
  | words A B k e1 e2 ok =>
    have hnd := hi.nd
    rw [e1, marks_app, marks_cons] at hnd
    simp only [U.k5, marks5] at hnd
    have hin : ∀ m, m ∈ marks A ∨ m ∈ (fnd i u).head.map Wd.by3 ∨ m ∈ (fnd i u).words.map Wd.by3 ∨ m ∈ marks B → m ∈ marks u.all5 := by
      intro m hm
      rw [e1, marks_app, marks_cons]
      simp only [U.k5, marks5, List.mem_append]
      rcases hm with hm | hm | hm | hm
      · exact .inl hm
      · exact .inr (.inl (.inl hm))
      · exact .inr (.inl (.inr hm))
      · exact .inr (.inr hm)
    have hwn : ((fnd i u).words.map Wd.by3).Nodup := (List.nodup_append.1 (List.nodup_append.1 (List.nodup_append.1 hnd).2.1).1).2.1
    obtain ⟨m1, m2⟩ := editE_marks hwn (fun y hy => hfr y (hin y (.inr (.inr (.inl hy))))) (k.elim (fun k => .inr (may_old hm k)) .inl) ok
    refine ⟨?_, ?_, ?_⟩
    · rw [e2, marks_app, marks_cons]
      simp only [U.k5, marks5]
      rw [List.append_assoc, ← List.append_assoc]
      refine nodup_swap (W := (fnd i u).words.map Wd.by3) (p := fun m => m.act = d.act ∧ m.item = d.item) ?_ m1 m2 (fun m hm => hfr m (hin m ?_))
      · simpa [List.append_assoc] using hnd
      · rcases hm with hm | hm
        · rcases List.mem_append.1 hm with hm | hm
          · exact .inl hm
          · exact .inr (.inl hm)
        · exact .inr (.inr (.inr hm))
    · intro m hm
      rw [e2, marks_app, marks_cons] at hm
      simp only [U.k5, marks5, List.mem_append] at hm
      rcases hm with hm | (hm | hm) | hm
      · exact List.mem_cons_of_mem _ (hi.mks m (hin m (.inl hm)))
      · exact List.mem_cons_of_mem _ (hi.mks m (hin m (.inr (.inl hm))))
      · rcases m2 m hm with hw | ⟨q1, q2⟩
        · exact List.mem_cons_of_mem _ (hi.mks m (hin m (.inr (.inr (.inl hw)))))
        · rw [q1, q2]; simp
      · exact List.mem_cons_of_mem _ (hi.mks m (hin m (.inr (.inr (.inr hm)))))
    · intro q hq h0
      rw [e2] at hq
      rcases List.mem_append.1 hq with hq | hq
      · exact List.mem_cons_of_mem _ (hi.id q (by rw [e1]; exact List.mem_append.2 (.inl hq)) h0)
      · rcases List.mem_cons.1 hq with rfl | hq
        · exact List.mem_cons_of_mem _ (hi.id (fnd i u).k5 (by rw [e1]; simp) h0)
        · exact List.mem_cons_of_mem _ (hi.id q (by rw [e1]; exact List.mem_append.2 (.inr (List.mem_cons_of_mem _ hq))) h0)
  | head A B k e1 e2 =>
    have hnd := hi.nd
    rw [e1, marks_app, marks_cons] at hnd
    simp only [U.k5, marks5] at hnd
    have hin : ∀ m, m ∈ marks A ∨ m ∈ (fnd i u).head.map Wd.by3 ∨ m ∈ (fnd i u).words.map Wd.by3 ∨ m ∈ marks B → m ∈ marks u.all5 := by
      intro m hm
      rw [e1, marks_app, marks_cons]
      simp only [U.k5, marks5, List.mem_append]
      rcases hm with hm | hm | hm | hm
      · exact .inl hm
      · exact .inr (.inl (.inl hm))
      · exact .inr (.inl (.inr hm))
      · exact .inr (.inr hm)
    refine ⟨?_, ?_, ?_⟩
    · rw [e2, marks_app, marks_cons]
      simp only [U.k5, marks5]
      rw [mark_by3, List.append_assoc]
      refine nodup_swap (W := (fnd i u).head.map Wd.by3) (p := fun m => m.act = d.act ∧ m.item = d.item) ?_ (idRow_nd _ _ _ _) (fun m hm => .inr ?_) (fun m hm => hfr m (hin m ?_))
      · simpa [List.append_assoc] using hnd
      · obtain ⟨q1, q2, _⟩ := mem_idRow.1 hm; exact ⟨q1, q2⟩
      · rcases hm with hm | hm
        · exact .inl hm
        · rcases List.mem_append.1 hm with hm | hm
          · exact .inr (.inr (.inl hm))
          · exact .inr (.inr (.inr hm))
    · intro m hm
      rw [e2, marks_app, marks_cons] at hm
      simp only [U.k5, marks5, List.mem_append, mark_by3] at hm
      rcases hm with hm | (hm | hm) | hm
      · exact List.mem_cons_of_mem _ (hi.mks m (hin m (.inl hm)))
      · obtain ⟨q1, q2, _⟩ := mem_idRow.1 hm
        rw [q1, q2]; simp
      · exact List.mem_cons_of_mem _ (hi.mks m (hin m (.inr (.inr (.inl hm)))))
      · exact List.mem_cons_of_mem _ (hi.mks m (hin m (.inr (.inr (.inr hm)))))
    · intro q hq h0
      rw [e2] at hq
      rcases List.mem_append.1 hq with hq | hq
      · exact List.mem_cons_of_mem _ (hi.id q (by rw [e1]; exact List.mem_append.2 (.inl hq)) h0)
      · rcases List.mem_cons.1 hq with rfl | hq
        · exact List.mem_cons_of_mem _ (hi.id (fnd i u).k5 (by rw [e1]; simp) h0)
        · exact List.mem_cons_of_mem _ (hi.id q (by rw [e1]; exact List.mem_append.2 (.inr (List.mem_cons_of_mem _ hq))) h0)
  | label A B k e1 e2 =>
    have em : marks v.all5 = marks u.all5 := by rw [e1, e2, marks_app, marks_app, marks_cons, marks_cons]; rfl
    refine ⟨by rw [em]; exact hi.nd, fun m hm => List.mem_cons_of_mem _ (hi.mks m (by rw [← em]; exact hm)), ?_⟩
    intro q hq h0
    rw [e2] at hq
    rcases List.mem_append.1 hq with hq | hq
    · exact List.mem_cons_of_mem _ (hi.id q (by rw [e1]; exact List.mem_append.2 (.inl hq)) h0)
    · rcases List.mem_cons.1 hq with rfl | hq
      · exact List.mem_cons_of_mem _ (hi.id (fnd i u).k5 (by rw [e1]; simp) h0)
      · exact List.mem_cons_of_mem _ (hi.id q (by rw [e1]; exact List.mem_append.2 (.inr (List.mem_cons_of_mem _ hq))) h0)
  | move A B C D k e1 e2 e3 =>
    have hp : v.all5.Perm u.all5 := by
      rw [e1, e2]
      have h1 : ∀ (A X B : List K5), (A ++ (X ++ B)).Perm (X ++ (A ++ B)) := fun A X B => by
        rw [← List.append_assoc, ← List.append_assoc]
        exact List.Perm.append_right _ List.perm_append_comm
      refine (h1 C _ D).trans ?_
      rw [← e3]
      exact (h1 A _ B).symm
    have hpm : (marks v.all5).Perm (marks u.all5) := hp.flatMap_right _
    exact ⟨hpm.nodup_iff.2 hi.nd, fun m hm => List.mem_cons_of_mem _ (hi.mks m (hpm.mem_iff.1 hm)), fun q hq h0 => List.mem_cons_of_mem _ (hi.id q (hp.mem_iff.1 hq) h0)⟩
end Go.Av
end
