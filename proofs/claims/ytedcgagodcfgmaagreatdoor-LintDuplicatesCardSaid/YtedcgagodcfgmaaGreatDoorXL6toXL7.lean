/-
  LINT, 6: words, rows, what is searched by a function.
-/
import Derived.Test.YtedcgagodcfgmaaGreatDoorXL5
section
namespace Go.Av
open Go Go.RowKit Go.Proofs
set_option linter.unusedSimpArgs false
set_option linter.unusedVariables false

def idxF {α : Type} (p : α → Bool) : Nat → List α → Int
  | _, [] => -1
  | i, x :: r => if p x then (i : Int) else idxF p (i + 1) r
theorem idxF_ge {α : Type} (p : α → Bool) : ∀ (l : List α) (i : Nat), decide (0 ≤ idxF p i l) = l.any p
  | [], i => rfl
  | x :: r, i => by
    unfold idxF
    cases h : p x with
    | true => simp [h]
    | false => simp [h]; simpa using idxF_ge p r (i + 1)
def seqOk (l : List (List UInt8)) : Bool := decide ((l.length : Int) ≤ 256) && l.all wordOk
def irow (n : Int) : List AV := [.int .i64 n]
theorem irow_eq (n : Int) : irow n = [.int .i64 n] := (rfl)
def brow (c : UInt8) : List AV := [.int .u8 c.toNat]
theorem byteRows_brow (l : List UInt8) : byteRows l = l.map brow := rfl
theorem brow_eq (c : UInt8) : brow c = [.int .u8 c.toNat] := (rfl)
theorem all_any {α : Type} (p : α → Bool) (l : List α) : (!l.any fun x => !p x) = l.all p := by
  induction l with
  | nil => rfl
  | cons x r ih => simp [← ih]

section
variable (G : Glob)

theorem f266 (c : UInt8) : Pure G Tryz.prog 266 [.int .u8 c.toNat] (.bool (!okCh c)) := by
  refine Pure.w c266 fun R hR => ?_
  unfold s266 r266
  (repeat' (first | (with_reducible (refine gd_case (fun h => ?_) (fun h => ?_)) <;> (try simp only [Da, Db, Dc, Dd, De, Df, Dg, Dh] at h)) | simp -dsimp -implicitDefEqProofs only [EV1, EV2, EV3, EV4, EV5, seval, ↓reduceIte, reduceCtorEq, eq_self, Option.map_some, decide_true, decide_false, EV6, EV7]))
  (all_goals (((refine RET.eq hR ?_; (refine congrArg AV.bool (Bool.eq_iff_iff.2 ?_); simp only [okCh, EVB] at *; omega)))))

theorem f297 (f : Value) (p : UInt8 → Bool) (l : List UInt8) (hl : l.length < 9000000000000000000) (hf : ∀ x ∈ l, VPure G Tryz.prog f [.int .u8 x.toNat] (.bool (p x))) : Pure G Tryz.prog 297 [.lst 1 (l.map brow), .sc f] (.int .i64 (idxF p 0 l)) := by
  refine Pure.w c297 fun R hR => ?_
  unfold s297 r297
  (repeat' (first | (with_reducible (refine split_case (fun h => ?_) (fun h => ?_)) <;> (try simp only [Da, Db, Dc, Dd, De, Df, Dg, Dh] at h)) | simp -dsimp -implicitDefEqProofs only [EV1, EV2, EV3, EV4, EV5, seval, ↓reduceIte, reduceCtorEq, eq_self, Option.map_some, decide_true, decide_false, EV6, EV7, brow_eq, hx.yes, hx.le0, hx.lt', hx.get, hx.row, hw] | simp -dsimp -implicitDefEqProofs only [EV1, EV2, EV3, EV4, EV5, seval, ↓reduceIte, reduceCtorEq, eq_self, Option.map_some, decide_true, decide_false, EV6, EV7, brow_eq, hn] | simp -dsimp -implicitDefEqProofs only [EV1, EV2, EV3, EV4, EV5, seval, ↓reduceIte, reduceCtorEq, eq_self, Option.map_some, decide_true, decide_false, EV6, EV7, brow_eq] | (refine LK_next hx () ?_ (Weak.rfl' _ _)) | (refine W_list (l) (fun i r (c : Unit) => idxF p 0 l = idxF p i r) (fun i c => [(0, .lst 1 (l.map brow)), (1, .sc f), (7, .int .i64 l.length), (8, .int .i64 i)]) (fun _ _ => []) () (by rfl) (Weak.rfl' _ _) (by omega) (fun i x r c hok hx hw => ?_) (fun c hok hn => ?_) ) | (refine CALL_vpure (hf _ hx.mem) ?_)))
  (all_goals (first | (refine RET.eq hR ?_; first | (simp only [idxF, hok, EVC, decide_true, decide_false]; done) | (simp_all [idxF]; done)) | (simp_all [idxF]; done)))
theorem f267 (f : Value) (p : UInt8 → Bool) (l : List UInt8) (hl : l.length < 9000000000000000000) (hf : ∀ x ∈ l, VPure G Tryz.prog f [.int .u8 x.toNat] (.bool (p x))) : Pure G Tryz.prog 267 [.lst 1 (l.map brow), .sc f] (.bool (l.any p)) := by
  refine Pure.w c267 fun R hR => ?_
  unfold s267 r267
  (repeat' (first | (with_reducible refine CALL_pure (f297 G f p l hl hf) ?_) | simp -dsimp -implicitDefEqProofs only [EV1, EV2, EV3, EV4, EV5, seval, ↓reduceIte, reduceCtorEq, eq_self, Option.map_some, decide_true, decide_false, EV6, EV7]))
  (all_goals (((refine RET.eq hR ?_; ((simp_all [idxF_ge]; done))))))
theorem f265 (f : Value) (p : List UInt8 → Bool) (l : List (List UInt8)) (hl : l.length < 9000000000000000000) (hf : ∀ x ∈ l, VPure G Tryz.prog f [.str x] (.bool (p x))) : Pure G Tryz.prog 265 [.lst 1 (l.map srow), .sc f] (.int .i64 (idxF p 0 l)) := by
  refine Pure.w c265 fun R hR => ?_
  unfold s265 r265
  (repeat' (first | (with_reducible (refine split_case (fun h => ?_) (fun h => ?_)) <;> (try simp only [Da, Db, Dc, Dd, De, Df, Dg, Dh] at h)) | simp -dsimp -implicitDefEqProofs only [EV1, EV2, EV3, EV4, EV5, seval, ↓reduceIte, reduceCtorEq, eq_self, Option.map_some, decide_true, decide_false, EV6, EV7, hx.yes, hx.le0, hx.lt', hx.get, hx.row, hw] | simp -dsimp -implicitDefEqProofs only [EV1, EV2, EV3, EV4, EV5, seval, ↓reduceIte, reduceCtorEq, eq_self, Option.map_some, decide_true, decide_false, EV6, EV7, hn] | simp -dsimp -implicitDefEqProofs only [EV1, EV2, EV3, EV4, EV5, seval, ↓reduceIte, reduceCtorEq, eq_self, Option.map_some, decide_true, decide_false, EV6, EV7] | (refine LK_next hx () ?_ (Weak.rfl' _ _)) | (refine W_list (l) (fun i r (c : Unit) => idxF p 0 l = idxF p i r) (fun i c => [(0, .lst 1 (l.map srow)), (1, .sc f), (7, .int .i64 l.length), (8, .int .i64 i)]) (fun _ _ => []) () (by rfl) (Weak.rfl' _ _) (by omega) (fun i x r c hok hx hw => ?_) (fun c hok hn => ?_) ) | (refine CALL_vpure (hf _ hx.mem) ?_)))
  (all_goals (first | (refine RET.eq hR ?_; first | (simp only [idxF, hok, EVC, decide_true, decide_false]; done) | (simp_all [idxF]; done)) | (simp_all [idxF]; done)))
theorem f208 (f : Value) (p : List UInt8 → Bool) (l : List (List UInt8)) (hl : l.length < 9000000000000000000) (hf : ∀ x ∈ l, VPure G Tryz.prog f [.str x] (.bool (p x))) : Pure G Tryz.prog 208 [.lst 1 (l.map srow), .sc f] (.bool (l.any p)) := by
  refine Pure.w c208 fun R hR => ?_
  unfold s208 r208
  (repeat' (first | (with_reducible refine CALL_pure (f265 G f p l hl hf) ?_) | simp -dsimp -implicitDefEqProofs only [EV1, EV2, EV3, EV4, EV5, seval, ↓reduceIte, reduceCtorEq, eq_self, Option.map_some, decide_true, decide_false, EV6, EV7]))
  (all_goals (((refine RET.eq hR ?_; ((simp_all [idxF_ge]; done))))))
theorem f290 (f : Value) (p : Wd → Bool) (l : List Wd) (hl : l.length < 9000000000000000000) (hf : ∀ x ∈ l, VPure G Tryz.prog f [.agg x.cs] (.bool (p x))) : Pure G Tryz.prog 290 [.lst 4 (l.map Wd.cs), .sc f] (.int .i64 (idxF p 0 l)) := by
  refine Pure.w c290 fun R hR => ?_
  unfold s290 r290
  (repeat' (first | (with_reducible (refine split_case (fun h => ?_) (fun h => ?_)) <;> (try simp only [Da, Db, Dc, Dd, De, Df, Dg, Dh] at h)) | simp -dsimp -implicitDefEqProofs only [EV1, EV2, EV3, EV4, EV5, seval, ↓reduceIte, reduceCtorEq, eq_self, Option.map_some, decide_true, decide_false, EV6, EV7, hx.yes, hx.le0, hx.lt', hx.get, hx.row, hw] | simp -dsimp -implicitDefEqProofs only [EV1, EV2, EV3, EV4, EV5, seval, ↓reduceIte, reduceCtorEq, eq_self, Option.map_some, decide_true, decide_false, EV6, EV7, hn] | simp -dsimp -implicitDefEqProofs only [EV1, EV2, EV3, EV4, EV5, seval, ↓reduceIte, reduceCtorEq, eq_self, Option.map_some, decide_true, decide_false, EV6, EV7] | (refine LK_next hx () ?_ (Weak.rfl' _ _)) | (refine W_list (l) (fun i r (c : Unit) => idxF p 0 l = idxF p i r) (fun i c => [(0, .lst 4 (l.map Wd.cs)), (1, .sc f), (7, .int .i64 l.length), (8, .int .i64 i)]) (fun _ _ => []) () (by rfl) (Weak.rfl' _ _) (by omega) (fun i x r c hok hx hw => ?_) (fun c hok hn => ?_) ) | (refine CALL_vpure (hf _ hx.mem) ?_)))
  (all_goals (first | (refine RET.eq hR ?_; first | (simp only [idxF, hok, EVC, decide_true, decide_false]; done) | (simp_all [idxF]; done)) | (simp_all [idxF]; done)))
theorem f257 (f : Value) (p : Wd → Bool) (l : List Wd) (hl : l.length < 9000000000000000000) (hf : ∀ x ∈ l, VPure G Tryz.prog f [.agg x.cs] (.bool (p x))) : Pure G Tryz.prog 257 [.lst 4 (l.map Wd.cs), .sc f] (.bool (l.any p)) := by
  refine Pure.w c257 fun R hR => ?_
  unfold s257 r257
  (repeat' (first | (with_reducible refine CALL_pure (f290 G f p l hl hf) ?_) | simp -dsimp -implicitDefEqProofs only [EV1, EV2, EV3, EV4, EV5, seval, ↓reduceIte, reduceCtorEq, eq_self, Option.map_some, decide_true, decide_false, EV6, EV7]))
  (all_goals (((refine RET.eq hR ?_; ((simp_all [idxF_ge]; done))))))
theorem f206 (l : List Int) (k : Int) (hl : l.length < 9000000000000000000) : Pure G Tryz.prog 206 [.lst 1 (l.map irow), .int .i64 k] (.int .i64 (idxF (fun x => decide (k = x)) 0 l)) := by
  refine Pure.w c206 fun R hR => ?_
  unfold s206 r206
  (repeat' (first | (with_reducible (refine split_case (fun h => ?_) (fun h => ?_)) <;> (try simp only [Da, Db, Dc, Dd, De, Df, Dg, Dh] at h)) | simp -dsimp -implicitDefEqProofs only [EV1, EV2, EV3, EV4, EV5, seval, ↓reduceIte, reduceCtorEq, eq_self, Option.map_some, decide_true, decide_false, EV6, EV7, irow_eq, hx.yes, hx.le0, hx.lt', hx.get, hx.row, hw] | simp -dsimp -implicitDefEqProofs only [EV1, EV2, EV3, EV4, EV5, seval, ↓reduceIte, reduceCtorEq, eq_self, Option.map_some, decide_true, decide_false, EV6, EV7, irow_eq, hn] | simp -dsimp -implicitDefEqProofs only [EV1, EV2, EV3, EV4, EV5, seval, ↓reduceIte, reduceCtorEq, eq_self, Option.map_some, decide_true, decide_false, EV6, EV7, irow_eq] | (refine LK_next hx () ?_ (Weak.rfl' _ _)) | (refine W_list (l) (fun i r (c : Unit) => idxF (fun x => decide (k = x)) 0 l = idxF (fun x => decide (k = x)) i r) (fun i c => [(0, .lst 1 (l.map irow)), (1, .int .i64 k), (7, .int .i64 l.length), (8, .int .i64 i)]) (fun _ _ => []) () (by rfl) (Weak.rfl' _ _) (by omega) (fun i x r c hok hx hw => ?_) (fun c hok hn => ?_) )))
  (all_goals (first | (refine RET.eq hR ?_; first | (simp only [idxF, hok, EVC, decide_true, decide_false]; done) | (simp_all [idxF]; done)) | (simp_all [idxF]; done)))
theorem f143 (l : List Int) (k : Int) (hl : l.length < 9000000000000000000) : Pure G Tryz.prog 143 [.lst 1 (l.map irow), .int .i64 k] (.bool (l.any fun x => decide (k = x))) := by
  refine Pure.w c143 fun R hR => ?_
  unfold s143 r143
  (repeat' (first | (with_reducible refine CALL_pure (f206 G l k hl) ?_) | simp -dsimp -implicitDefEqProofs only [EV1, EV2, EV3, EV4, EV5, seval, ↓reduceIte, reduceCtorEq, eq_self, Option.map_some, decide_true, decide_false, EV6, EV7]))
  (all_goals (((refine RET.eq hR ?_; ((simp_all [idxF_ge]; done))))))

theorem f210 (s : List UInt8) : Pure G Tryz.prog 210 [.str s] (.bool (wordOk s)) := by
  refine Pure.w c210 fun R hR => ?_
  unfold s210 r210
  (repeat' (first | (with_reducible (refine gd_case (fun h => ?_) (fun h => ?_)) <;> (try simp only [Da, Db, Dc, Dd, De, Df, Dg, Dh] at h)) | (with_reducible refine CALL_pure (f267 G _ (fun c => !okCh c) s (by omega) (fun x _ => (f266 G x).v)) ?_) | simp -dsimp -implicitDefEqProofs only [EV1, EV2, EV3, EV4, EV5, seval, ↓reduceIte, reduceCtorEq, eq_self, Option.map_some, decide_true, decide_false, EV6, EV7, byteRows_brow, all_any] | (refine RAW_strBytes (l := s) (elem := 5) rfl (by omega) (by kernel_rfl) (by kernel_rfl) (by kernel_rfl) ?_)))
  all_goals (try have h1 : (1 : Int) ≤ s.length := by have : 0 < s.length := List.length_pos_iff.2 (by assumption); omega)
  (all_goals (first | (refine RET.eq hR ?_; (refine congrArg AV.bool (Bool.eq_iff_iff.2 ?_); simp only [wordOk, all_any, EVB] at *; omega)) | (refine RET.eq hR ?_; ((simp_all [wordOk, all_any]; done)))))
end
end Go.Av
end

section
namespace Go.Av
open Go Go.RowKit Go.Proofs
set_option linter.unusedSimpArgs false
set_option linter.unusedVariables false

theorem appX_one {e : TypeId} {sz bytes : Nat} {σ : Store} {g : Option Nat} {rows ys : List (List AV)} {K : AV → Store → Prop} (κ : Store) (hg : ∀ b, g = some b → σ.get b = some (.tok e (rows.length * sz))) (hb : (rows.length + ys.length) * bytes ≤ 140737488355328)
    (hκ : SubN κ (σ.erase g)) (hk : ∀ g', (∀ b, g' = some b → b ∉ κ.keys) → K (.own g' e sz (rows ++ ys)) (κ ++ tokS g' e ((rows ++ ys).length * sz))) : appX e sz bytes σ g rows ys K := by
  refine ⟨hg, hb, fun g' _ hg' => ⟨κ ++ tokS g' e ((rows ++ ys).length * sz), ⟨?_, ?_⟩, hk g' (fun b hb hm => hg' b hb (keys_sub hκ.1 hm))⟩⟩
  · intro p hp
    rcases List.mem_append.1 hp with hp | hp
    · exact List.mem_append.2 (.inr (hκ.1 p hp))
    · exact List.mem_append.2 (.inl hp)
  · intro hn
    rw [keys_append] at hn ⊢
    obtain ⟨n1, n2, n3⟩ := List.nodup_append.1 hn
    exact List.nodup_append.2 ⟨hκ.2 n2, n1, fun x hx y hy e => n3 y hy x (keys_sub hκ.1 hx) e.symm⟩

/-- A row of one is made and appended: the store's other blocks may be forgotten. -/
theorem app_row {e : TypeId} {sz bytes n m m' : Nat} {τ : Store} {g : Option Nat} {rows : List (List AV)} {cs : List AV} {K : AV → Store → Prop} {b k1 : Nat} (hτ : ∀ d, g = some d → τ.get d = some (.tok e m)) (hr : rows.length = n) (hm : m = n * sz) (hm' : m' = (n + 1) * sz) (hl : cs.length = sz)
    (hb : b ∉ τ.keys) (hn : (n + 1) * bytes ≤ 140737488355328) (hk : ∀ g', K (.own g' e sz (rows ++ [cs])) (tokS g' e m')) :
    ∃ rs : List (List AV), rs.length = 1 ∧ (∀ r ∈ rs, r.length = sz) ∧ rs.flatten = cs ∧ appX e sz bytes ((b, .tok e k1) :: τ) g rows rs K := by
  subst hm hm' hr
  refine ⟨[cs], rfl, by simpa using hl, by simp, appX_one [] (fun d hd => ?_) (by simpa using hn) (SubN.nil _) (fun g' _ => by simpa using hk g')⟩
  have h1 := hτ d hd
  have : ¬ b = d := by
    rintro rfl
    exact hb (List.mem_map.2 ⟨_, Store.get_mem h1, rfl⟩)
  simp only [Store.get, if_neg this]
  exact h1

theorem Weak.sub {G : Glob} {env : Env} {σ σ' : Store} (hs : SubN σ' σ) : Weak G env σ env σ' := fun ρ w tmps hS hE => ⟨hS.subN hs, Ev.of_sub hs.1 w, fun j => Rep.ev (Ev.of_sub hs.1 w) _ _ (hE j)⟩
theorem tok_get {g : Option Nat} {e : TypeId} {k : Nat} : ∀ d, g = some d → (tokS g e k).get d = some (.tok e k) := by
  rintro d rfl; simp [tokS, Store.get]
theorem tok_get_cons {g : Option Nat} {e : TypeId} {k c : Nat} {y : AObj} (hc : c ∉ (tokS g e k).keys) : ∀ d, g = some d → Store.get ((c, y) :: tokS g e k) d = some (.tok e k) := by
  rintro d rfl
  have : ¬ c = d := by rintro rfl; exact hc (by simp [tokS, Store.keys])
  simp [tokS, Store.get, this]
section
variable (G : Glob)

theorem f258 (s : List UInt8) : Pure G Tryz.prog 258 [.str s] (.bool (!wordOk s)) := by
  refine Pure.w c258 fun R hR => ?_
  unfold s258 r258
  (repeat' (first | (with_reducible refine CALL_pure (f210 G _) ?_) | simp -dsimp -implicitDefEqProofs only [EV1, EV2, EV3, EV4, EV5, seval, ↓reduceIte, reduceCtorEq, eq_self, Option.map_some, decide_true, decide_false, EV6, EV7]))
  (all_goals ((exact RET.eq hR rfl)))
theorem f195 (l : List (List UInt8)) (hl : l.length < 9000000000000000000) : Pure G Tryz.prog 195 [.lst 1 (l.map srow)] (.bool (seqOk l)) := by
  refine Pure.w c195 fun R hR => ?_
  unfold s195 r195
  (repeat' (first | (with_reducible (refine gd_case (fun h => ?_) (fun h => ?_)) <;> (try simp only [Da, Db, Dc, Dd, De, Df, Dg, Dh] at h)) | (with_reducible refine CALL_pure (f208 G _ (fun c => !wordOk c) l hl (fun x _ => (f258 G x).v)) ?_) | simp -dsimp -implicitDefEqProofs only [EV1, EV2, EV3, EV4, EV5, seval, ↓reduceIte, reduceCtorEq, eq_self, Option.map_some, decide_true, decide_false, EV6, EV7, all_any]))
  (all_goals (first | (refine RET.eq hR ?_; (refine congrArg AV.bool (Bool.eq_iff_iff.2 ?_); simp only [seqOk, all_any, EVB] at *; omega)) | (refine RET.eq hR ?_; ((simp_all [seqOk, all_any]; done)))))
theorem f103 (l : List (List UInt8)) (hl : l.length < 9000000000000000000) : Pure G Tryz.prog 103 [.lst 1 (l.map srow)] (.bool (seqOk l)) := by
  refine Pure.w c103 fun R hR => ?_
  unfold s103 r103
  (repeat' (first | (with_reducible (refine split_case (fun h => ?_) (fun h => ?_)) <;> (try simp only [Da, Db, Dc, Dd, De, Df, Dg, Dh] at h)) | (with_reducible refine CALL_pure (f150 G _) ?_) | simp -dsimp -implicitDefEqProofs only [EV1, EV2, EV3, EV4, EV5, seval, ↓reduceIte, reduceCtorEq, eq_self, Option.map_some, decide_true, decide_false, EV6, EV7, hx.yes, hx.le0, hx.lt', hx.get, hx.row, hw] | simp -dsimp -implicitDefEqProofs only [EV1, EV2, EV3, EV4, EV5, seval, ↓reduceIte, reduceCtorEq, eq_self, Option.map_some, decide_true, decide_false, EV6, EV7, hn] | simp -dsimp -implicitDefEqProofs only [EV1, EV2, EV3, EV4, EV5, seval, ↓reduceIte, reduceCtorEq, eq_self, Option.map_some, decide_true, decide_false, EV6, EV7] | (refine LK_next hx () ?_ (Weak.rfl' _ _)) | (refine W_list (l) (fun i r (c : Unit) => l.all wordOk = r.all wordOk) (fun i c => [(0, .lst 1 (l.map srow)), (3, .int .i64 i)]) (fun _ _ => []) () (by rfl) (Weak.rfl' _ _) (by omega) (fun i x r c hok hx hw => ?_) (fun c hok hn => ?_) )))
  (all_goals (first | (refine RET.eq hR ?_; (refine congrArg AV.bool (Bool.eq_iff_iff.2 ?_); simp only [seqOk, EVB] at *; omega)) | (refine RET.eq hR ?_; ((simp only [seqOk, hok, h, EVC, decide_true, decide_false]; done))) | (rw [hok]; simp only [seqOk, h, EVC, decide_true, decide_false]; done)))
theorem f303 (s : List UInt8) (hs : s.length < 9000000000000000000) : Pure G Tryz.prog 303 [.str s] (.bool (wordOk s)) := by
  refine Pure.w c303 fun R hR => ?_
  unfold s303 r303
  (repeat' (first | (with_reducible (first | refine split_case (fun h => ?_) (fun h => ?_) | refine gd_case (fun h => ?_) (fun h => ?_)) <;> (try simp only [Da, Db, Dc, Dd, De, Df, Dg, Dh] at h)) | simp -dsimp -implicitDefEqProofs only [EV1, EV2, EV3, EV4, EV5, seval, ↓reduceIte, reduceCtorEq, eq_self, Option.map_some, decide_true, decide_false, EV6, EV7, hx.yes, hx.le0, hx.lt', hx.get, hx.row, hw] | simp -dsimp -implicitDefEqProofs only [EV1, EV2, EV3, EV4, EV5, seval, ↓reduceIte, reduceCtorEq, eq_self, Option.map_some, decide_true, decide_false, EV6, EV7, hn] | simp -dsimp -implicitDefEqProofs only [EV1, EV2, EV3, EV4, EV5, seval, ↓reduceIte, reduceCtorEq, eq_self, Option.map_some, decide_true, decide_false, EV6, EV7] | (refine LK_next hx () ?_ (Weak.rfl' _ _)) | (refine W_list (s) (fun i r (c : Unit) => s.all okCh = r.all okCh) (fun i c => [(0, .str s), (3, .int .i64 i)]) (fun _ _ => []) () (by rfl) (Weak.rfl' _ _) (by omega) (fun i x r c hok hx hw => ?_) (fun c hok hn => ?_) )))
  (all_goals (first | (refine RET.eq hR ?_; (refine congrArg AV.bool (Bool.eq_iff_iff.2 ?_); simp only [wordOk, okCh, EVB] at *; omega)) | (refine RET.eq hR ?_; first | (simp only [wordOk, okCh, hok, h, EVC, decide_true, decide_false]; done) | (simp_all [wordOk, okCh]; omega)) | (simp_all [wordOk, okCh]; done)))

theorem f57 (l : List (List UInt8)) (n : Int) (hl : l.length < 9000000000000000000) : Pure G Tryz.prog 57 [.lst 1 (l.map srow), .int .i64 n] (.bool (seqOk l && decide (n ≤ (l.length : Int)))) := by
  refine Pure.w c57 fun R hR => ?_
  unfold s57 r57
  (repeat' (first | (with_reducible (refine gd_case (fun h => ?_) (fun h => ?_)) <;> (try simp only [Da, Db, Dc, Dd, De, Df, Dg, Dh] at h)) | (with_reducible refine CALL_pure (f103 G _ hl) ?_) | simp -dsimp -implicitDefEqProofs only [EV1, EV2, EV3, EV4, EV5, seval, ↓reduceIte, reduceCtorEq, eq_self, Option.map_some, decide_true, decide_false, EV6, EV7]))
  (all_goals (((refine RET.eq hR ?_; ((simp_all []; done))))))
theorem f124 (l : List (List UInt8)) (n : Int) (hl : l.length < 9000000000000000000) : Pure G Tryz.prog 124 [.lst 1 (l.map srow), .int .i64 n] (.bool (seqOk l && decide (n ≤ (l.length : Int)))) := by
  refine Pure.w c124 fun R hR => ?_
  unfold s124 r124
  (repeat' (first | (with_reducible (refine gd_case (fun h => ?_) (fun h => ?_)) <;> (try simp only [Da, Db, Dc, Dd, De, Df, Dg, Dh] at h)) | (with_reducible refine CALL_pure (f195 G _ hl) ?_) | simp -dsimp -implicitDefEqProofs only [EV1, EV2, EV3, EV4, EV5, seval, ↓reduceIte, reduceCtorEq, eq_self, Option.map_some, decide_true, decide_false, EV6, EV7]))
  (all_goals (((refine RET.eq hR ?_; ((simp_all []; done))))))

def wdOk (w : Wd) : Bool := wordOk w.text
def rowOk (l : List Wd) : Bool := decide ((l.length : Int) ≤ 256) && l.all wdOk

theorem f302 (l : List Wd) (hl : l.length < 1000000) : Pure G Tryz.prog 302 [.lst 4 (l.map Wd.cs)] (.lst 1 ((l.map Wd.text).map srow)) := by
  refine Pure.w c302 fun R hR => ?_
  unfold s302 r302
  (repeat' (first | simp -dsimp -implicitDefEqProofs only [EV1, EV2, EV3, EV4, EV5, seval, ↓reduceIte, reduceCtorEq, eq_self, Option.map_some, decide_true, decide_false, EV6, EV7, hx.yes, hx.le0, hx.lt', hx.get, hx.row, hw] | simp -dsimp -implicitDefEqProofs only [EV1, EV2, EV3, EV4, EV5, seval, ↓reduceIte, reduceCtorEq, eq_self, Option.map_some, decide_true, decide_false, EV6, EV7, hn] | simp -dsimp -implicitDefEqProofs only [EV1, EV2, EV3, EV4, EV5, seval, ↓reduceIte, reduceCtorEq, eq_self, Option.map_some, decide_true, decide_false, EV6, EV7] | (with_reducible intro blk hblk; (try (have hnx := hblk; simp only [EVK] at hnx; (have hne := hnx)))) | (refine ⟨[], rfl, (by simp), rfl, ?_⟩) | (refine W_list (ι := Option Nat) (l) (fun i r c => True) (fun i c => [(0, .lst 4 (l.map Wd.cs)), (3, .own c 9 1 ((l.take i).map (fun w => [AV.str w.text]))), (4, .int .i64 i)]) (fun i c => tokS c 9 (i)) (some blk) (by trivial) (Weak.rfl' _ _) (by omega) (fun i x r c hok hx hw => ?_) (fun c hok hn => ?_) ) | (refine app_row (n := i) (m' := (i + 1)) (by exact tok_get) (by simp; have := hx.lt; omega) (by omega) (by omega) rfl (by assumption) (by have := hx.lt; omega) (fun gn => ?_)) | (refine LK_next hx gn ?_ (by simp only [hx.take, List.map_append, List.map_cons, List.map_nil]; exact Weak.rfl' _ _))))
  (all_goals (((refine hR _ _ (Or.inl (Or.inr ⟨rfl, ?_⟩)); simp [srow_eq, Function.comp_def]; done))))
end
end Go.Av
end
