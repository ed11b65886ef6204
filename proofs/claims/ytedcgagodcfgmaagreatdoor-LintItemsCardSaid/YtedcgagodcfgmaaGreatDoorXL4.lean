/-
  LINT, 4: words.
-/
import Derived.Test.YtedcgagodcfgmaaGreatDoorXL3
namespace Go.Av
open Go Go.RowKit Go.Proofs
set_option linter.unusedSimpArgs false
set_option linter.unusedVariables false

def okCh (c : UInt8) : Bool := decide ((33 : Int) ≤ c.toNat) && decide ((c.toNat : Int) ≤ 126)
def wordOk (s : List UInt8) : Bool := decide ((1 : Int) ≤ s.length) && (decide ((s.length : Int) ≤ 24) && s.all okCh)

section
variable (G : Glob)

theorem f150 (s : List UInt8) : Pure G Tryz.prog 150 [.str s] (.bool (wordOk s)) := by
  refine Pure.w c150 fun R hR => ?_
  unfold s150 r150
  (repeat' (first | (with_reducible refine split_case (fun h => ?_) (fun h => ?_) <;> (try simp only [Da, Db, Dc, Dd, De, Df, Dg, Dh] at h)) | (with_reducible refine gd_case (fun h => ?_) (fun h => ?_) <;> (try simp only [Da, Db, Dc, Dd, De, Df, Dg, Dh] at h)) | (with_reducible refine pick_case (fun h => ?_) (fun h => ?_) <;> (try simp only [Da, Db, Dc, Dd, De, Df, Dg, Dh] at h)) | (with_reducible refine And.intro (by omega) ?_)  | simp -dsimp -implicitDefEqProofs only [EV1, EV2, EV3, EV4, EV5, seval, ↓reduceIte, reduceCtorEq, eq_self, Option.map_some, decide_true, decide_false, EV6, EV7, hx.yes, hx.le0, hx.lt', hx.get, hx.row, hw] | simp -dsimp -implicitDefEqProofs only [EV1, EV2, EV3, EV4, EV5, seval, ↓reduceIte, reduceCtorEq, eq_self, Option.map_some, decide_true, decide_false, EV6, EV7, hn] | simp -dsimp -implicitDefEqProofs only [EV1, EV2, EV3, EV4, EV5, seval, ↓reduceIte, reduceCtorEq, eq_self, Option.map_some, decide_true, decide_false, EV6, EV7] | (with_reducible intro blk hblk; (try (have hnx := hblk; simp only [EVK] at hnx; first | (have hne := And.intro hnx hne) | (have hne := hnx)))) | (with_reducible refine both_case ?_ ?_) | (with_reducible refine same_case ?_) | (refine LK_next hx () ?_ (Weak.rfl' _ _)) | (refine LK_next hx () ?_ (Weak.sub (SubN.nil _))) | (refine W_list (s) (fun i r (c : Unit) => s.all okCh = r.all okCh) (fun i c => [(0, .str s), (3, .int .i64 i)]) (fun _ _ => []) () (by first | rfl | (simp; done) | (simp [*]; done) | (simp; omega)) (Weak.rfl' _ _) (by omega) (fun i x r c hok hx hw => ?_) (fun c hok hn => ?_) ) | (exfalso; omega)))
  (all_goals (first | (exact RET.eq hR rfl) | rfl | (refine RET.eq hR ?_; (refine congrArg AV.bool (Bool.eq_iff_iff.2 ?_); simp only [wordOk, okCh, EVB] at *; omega)) | (refine RET.eq hR ?_; first | (simp only [wordOk, okCh, hok, h, EVC, decide_true, decide_false]; done) | (simp only [wordOk, okCh, hok, EVC, decide_true, decide_false]; done) | (simp only [wordOk, okCh, hok, EVC, decide_true, decide_false]; refine congrArg AV.bool (decide_eq_decide.2 ?_); omega) | (simp_all [wordOk, okCh]; done) | (simp_all [wordOk, okCh]; omega) | grind | (norm_cast at *; simp_all [wordOk, okCh]; done) | (norm_cast at *; simp_all [wordOk, okCh]; omega)) | (refine hR _ _ (Or.inl (Or.inr ⟨rfl, ?_⟩)); simp [wordOk, okCh]; done) | (refine hR _ _ (Or.inr ?_); simp [*, AVleL, AVle1, Itm.cs_eq, U.cs_eq, wordOk, okCh]; done) | (rw [hok]; simp only [wordOk, okCh, h, EVC, decide_true, decide_false]; done) | (rw [hok]; simp only [wordOk, okCh, EVC, decide_true, decide_false]; done) | (simp_all [wordOk, okCh]; done) | (simp_all [wordOk, okCh]; omega) | grind | (norm_cast at *; simp_all [wordOk, okCh]; done) | (norm_cast at *; simp_all [wordOk, okCh]; omega)))
end
end Go.Av
