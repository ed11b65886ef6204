/-
  ENACT, M22: where a unit will be: by the program.
-/
import Derived.Test.YtcecmifknojgeaaGreatDoorXAv34toXAv36
import Derived.Test.YtcecmifknojgeaaGreatDoorXM17toXM11
import Derived.Test.YtcecmifknojgeaaGreatDoorXM12toXM21
namespace Go.Av
open Go Go.RowKit Go.Proofs
set_option linter.unusedSimpArgs false
set_option linter.unusedVariables false

def spotAV : Option (Idd × Nat) → AV
  | some (q, k) => .tup [.agg [.int .i64 q.act, .int .i64 q.item, .int .i64 q.n, .int .i64 k], .int .i64 0]
  | none => .tup [.agg [.int .i64 0, .int .i64 0, .int .i64 0, .int .i64 0], .int .i64 9]
def placeAV : (Idd × Nat) ⊕ Int → AV
  | .inl (q, k) => .tup [.agg [.int .i64 q.act, .int .i64 q.item, .int .i64 q.n], .int .i64 k, .int .i64 0]
  | .inr e => .tup [.agg [.int .i64 0, .int .i64 0, .int .i64 0], .int .i64 0, .int .i64 e]
def dest (u : U) (x : Itm) : (Idd × Nat) ⊕ Int :=
  if (one u x.at_).2 ≠ 0 then .inr (one u x.at_).2
  else if x.kind = 0 then (match spot u (one u x.at_).1 x.wh with | none => .inr 9 | some q => .inl q)
  else if (one u x.to_).2 ≠ 0 then .inr (one u x.to_).2
  else match goesP u (one u x.at_).1 (one u x.to_).1 x.wh with | none => .inr 9 | some q => .inl q
theorem fnd_way {i : Idd} {u : U} (hi : i ∈ u.ids) : (U.way i u).isEmpty = false := by
  have := way_yes.2 hi
  cases h : U.way i u <;> simp_all

section
variable (G : Glob)
theorem f235 (u : U) (i : Idd) (f : Value) (m : Int) (hs : u.Short) (hi : i ∈ u.ids) (hf : VPure G Tryz.prog f [.int .i64 (fnd i u).kids.length] (.int .i64 m)) :
    Pure G Tryz.prog 235 [.agg u.cs, .agg i.cs, .sc f] (.tup [.agg [.int .i64 i.act, .int .i64 i.item, .int .i64 i.n, .int .i64 m], .int .i64 0]) := by
  have hF := f31 G i u hs
  unfold fndAV at hF
  rw [fnd_way hi, if_neg (by simp)] at hF
  simp only [Idd.cs] at hF
  rw [U.cs_eq (fnd i u)] at hF
  refine Pure.w c235 fun R hR => ?_
  unfold s235 r235
  (repeat' (first | (with_reducible refine CALL_pure (hF) ?_) | simp -dsimp -implicitDefEqProofs only [EVz, seval, ↓reduceIte, reduceCtorEq, EV6, EV7, hne] | simp -dsimp -implicitDefEqProofs only [EVz, seval, ↓reduceIte, reduceCtorEq, EV6, EV7] | (with_reducible intro blk hblk; (try (have hnx := hblk; simp only [EVK] at hnx; first | (have hne := And.intro hnx hne) | (have hne := hnx)))) | (refine CALL_vpure hf ?_) | fail))
  all_goals exact hR _ _ (.inl (.inl rfl))
theorem f236 (n : Int) : Pure G Tryz.prog 236 [.int .i64 n] (.int .i64 0) := by
  refine Pure.w c236 fun R hR => ?_
  unfold s236 r236
  (repeat' (simp -dsimp -implicitDefEqProofs only [EVz, seval, ↓reduceIte, reduceCtorEq, EV6, EV7]))
  (all_goals ((exact RET.eq hR rfl)))
theorem f238 (n : Int) : Pure G Tryz.prog 238 [.int .i64 n] (.int .i64 n) := by
  refine Pure.w c238 fun R hR => ?_
  unfold s238 r238
  (repeat' (simp -dsimp -implicitDefEqProofs only [EVz, seval, ↓reduceIte, reduceCtorEq, EV6, EV7]))
  (all_goals ((exact RET.eq hR rfl)))
theorem f234 (u : U) (i : Idd) (hs : u.Short) (hi : i ∈ u.ids) : Pure G Tryz.prog 234 [.agg u.cs, .agg i.cs] (spotAV (spot u i 0)) := by
  have hF := f235 G u i _ 0 hs hi (f236 G _).v
  simp only [Idd.cs] at hF
  refine Pure.w c234 fun R hR => ?_
  unfold s234 r234
  (repeat' (first | (with_reducible refine CALL_pure (hF) ?_) | simp -dsimp -implicitDefEqProofs only [EVz, seval, ↓reduceIte, reduceCtorEq, EV6, EV7, hne] | simp -dsimp -implicitDefEqProofs only [EVz, seval, ↓reduceIte, reduceCtorEq, EV6, EV7] | (with_reducible intro blk hblk; (try (have hnx := hblk; simp only [EVK] at hnx; (have hne := hnx)))) | fail))
  all_goals exact hR _ _ (.inl (.inl rfl))
theorem f237 (u : U) (i : Idd) (hs : u.Short) (hi : i ∈ u.ids) : Pure G Tryz.prog 237 [.agg u.cs, .agg i.cs] (spotAV (spot u i 1)) := by
  have hF := f235 G u i _ _ hs hi (f238 G _).v
  simp only [Idd.cs] at hF
  refine Pure.w c237 fun R hR => ?_
  unfold s237 r237
  (repeat' (first | (with_reducible refine CALL_pure (hF) ?_) | simp -dsimp -implicitDefEqProofs only [EVz, seval, ↓reduceIte, reduceCtorEq, EV6, EV7, hne] | simp -dsimp -implicitDefEqProofs only [EVz, seval, ↓reduceIte, reduceCtorEq, EV6, EV7] | (with_reducible intro blk hblk; (try (have hnx := hblk; simp only [EVK] at hnx; (have hne := hnx)))) | fail))
  all_goals exact hR _ _ (.inl (.inl rfl))
theorem f240 (u : U) (i : Idd) (b : Nat) (hb : b ≤ 1) (hs : u.Short) (hn : u.ids.Nodup) (hk : ∀ q, wayPar i u = some q → q.2.2 < 1000000) :
    Pure G Tryz.prog 240 [.agg u.cs, .agg i.cs, .int .i64 b] (spotAV ((wayPar i u).map fun q => (q.1.id, q.2.2 + b))) := by
  have hF := f104 G i u hs hn
  simp only [Idd.cs] at hF
  unfold parAV at hF
  refine Pure.w c240 fun R hR => ?_
  unfold s240 r240
  rcases hw : wayPar i u with _ | ⟨p, d, k⟩
  · rw [hw] at hF hR
    (repeat' (first | (with_reducible refine CALL_pure (hF) ?_) | simp -dsimp -implicitDefEqProofs only [EVz, seval, ↓reduceIte, reduceCtorEq, EV6, EV7, hne] | simp -dsimp -implicitDefEqProofs only [EVz, seval, ↓reduceIte, reduceCtorEq, EV6, EV7] | (with_reducible intro blk hblk; (try (have hnx := hblk; simp only [EVK] at hnx; first | (have hne := And.intro hnx hne) | (have hne := hnx)))) | fail))
    all_goals exact hR _ _ (.inl (.inl rfl))
  · have hkk := hk _ hw
    rw [hw] at hF hR
    simp only at hkk
    have e : IntKind.i64.wrap ((k : Int) + (b : Int)) = ((k + b : Nat) : Int) := by rw [wrap_i64 (by omega) (by omega)]; omega
    (repeat' (first | (with_reducible refine CALL_pure (hF) ?_) | simp -dsimp -implicitDefEqProofs only [EVz, seval, ↓reduceIte, reduceCtorEq, EV6, EV7, e, hne] | simp -dsimp -implicitDefEqProofs only [EVz, seval, ↓reduceIte, reduceCtorEq, EV6, EV7, e] | (with_reducible intro blk hblk; (try (have hnx := hblk; simp only [EVK] at hnx; first | (have hne := And.intro hnx hne) | (have hne := hnx)))) | fail))
    all_goals exact hR _ _ (.inl (.inl rfl))
theorem f239 (u : U) (i : Idd) (hs : u.Short) (hn : u.ids.Nodup) (hk : ∀ q, wayPar i u = some q → q.2.2 < 1000000) : Pure G Tryz.prog 239 [.agg u.cs, .agg i.cs] (spotAV (spot u i 2)) := by
  have hF := f240 G u i 1 (by omega) hs hn hk
  simp only [Idd.cs] at hF
  have e : spot u i 2 = (wayPar i u).map fun q => (q.1.id, q.2.2 + 1) := by unfold spot; simp
  rw [e]
  obtain ⟨z, hz⟩ : ∃ z, (wayPar i u).map (fun q => (q.1.id, q.2.2 + 1)) = z := ⟨_, rfl⟩
  rw [hz] at hF ⊢
  refine Pure.w c239 fun R hR => ?_
  unfold s239 r239
  unfold spotAV at hF hR
  rcases z with _ | ⟨q, k⟩ <;> (repeat' (first | (with_reducible refine CALL_pure (hF) ?_) | simp -dsimp -implicitDefEqProofs only [EVz, seval, ↓reduceIte, reduceCtorEq, EV6, EV7, hne] | simp -dsimp -implicitDefEqProofs only [EVz, seval, ↓reduceIte, reduceCtorEq, EV6, EV7] | (with_reducible intro blk hblk; (try (have hnx := hblk; simp only [EVK] at hnx; (have hne := hnx)))) | fail))
  all_goals exact hR _ _ (.inl (.inl rfl))
theorem f241 (u : U) (i : Idd) (hs : u.Short) (hn : u.ids.Nodup) (hk : ∀ q, wayPar i u = some q → q.2.2 < 1000000) : Pure G Tryz.prog 241 [.agg u.cs, .agg i.cs] (spotAV (spot u i 3)) := by
  have hF := f240 G u i 0 (by omega) hs hn hk
  simp only [Idd.cs] at hF
  have e : spot u i 3 = (wayPar i u).map fun q => (q.1.id, q.2.2 + 0) := by unfold spot; simp
  rw [e]
  obtain ⟨z, hz⟩ : ∃ z, (wayPar i u).map (fun q => (q.1.id, q.2.2 + 0)) = z := ⟨_, rfl⟩
  rw [hz] at hF ⊢
  refine Pure.w c241 fun R hR => ?_
  unfold s241 r241
  unfold spotAV at hF hR
  rcases z with _ | ⟨q, k⟩ <;> (repeat' (first | (with_reducible refine CALL_pure (hF) ?_) | simp -dsimp -implicitDefEqProofs only [EVz, seval, ↓reduceIte, reduceCtorEq, EV6, EV7, hne] | simp -dsimp -implicitDefEqProofs only [EVz, seval, ↓reduceIte, reduceCtorEq, EV6, EV7] | (with_reducible intro blk hblk; (try (have hnx := hblk; simp only [EVK] at hnx; (have hne := hnx)))) | fail))
  all_goals exact hR _ _ (.inl (.inl rfl))
theorem f209 : Pure G Tryz.prog 209 [] (.agg [fnV 234, fnV 237, fnV 239, fnV 241]) := by
  refine Pure.w c209 fun R hR => ?_
  unfold s209 r209
  (repeat' (first | simp -dsimp -implicitDefEqProofs only [EVz, seval, ↓reduceIte, reduceCtorEq, EV6, EV7] | (with_reducible intro blk hblk; (try (have hnx := hblk; simp only [EVK] at hnx; (have hne := hnx)))) | (refine RAW_buildF (e := 210) (by kernel_rfl) (by kernel_rfl) (by kernel_rfl) ?_) | fail))
  all_goals exact hR _ _ (.inl (.inl rfl))
def leadV (wh : Int) : Value := .func (.func (if wh = 0 then 234 else if wh = 1 then 237 else if wh = 2 then 239 else 241)) #[] #[]
theorem lead_pure (u : U) (i : Idd) (wh : Int) (h0 : 0 ≤ wh) (h3 : wh ≤ 3) (hs : u.Short) (hi : i ∈ u.ids) (hn : u.ids.Nodup) (hk : ∀ q, wayPar i u = some q → q.2.2 < 1000000) : VPure G Tryz.prog (leadV wh) [.agg u.cs, .agg i.cs] (spotAV (spot u i wh)) := by
  have hh : wh = 0 ∨ wh = 1 ∨ wh = 2 ∨ wh = 3 := by omega
  rcases hh with rfl | rfl | rfl | rfl
  · exact (f234 G u i hs hi).v
  · exact (f237 G u i hs hi).v
  · exact (f239 G u i hs hn hk).v
  · exact (f241 G u i hs hn hk).v
theorem lead_get (w : Nat) (h : w < 4) : [fnV 234, fnV 237, fnV 239, fnV 241].getD w .any = .sc (leadV w) := by
  have hh : w = 0 ∨ w = 1 ∨ w = 2 ∨ w = 3 := by omega
  rcases hh with rfl | rfl | rfl | rfl <;> rfl
end
end Go.Av
