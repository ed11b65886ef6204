/-
  What XLawPreserves needs besides.
-/
import Derived.JoinedCond
import Derived.Deep.DeepWitnessRowRef
import Derived.Test.YtcecmifknojgeaaGreatDoorProg
import Derived.Test.YtcecmifknojgeaaGreatDoorXAv1toXAv2
import Derived.Test.YtcecmifknojgeaaGreatDoorXAv3
import Derived.Test.YtcecmifknojgeaaGreatDoorXAv4
import Derived.Test.YtcecmifknojgeaaGreatDoorXAv5toXAv7
import Derived.Test.YtcecmifknojgeaaGreatDoorXAv8toXAv9
import Derived.Test.YtcecmifknojgeaaGreatDoorXAv10
import Derived.Test.YtcecmifknojgeaaGreatDoorXAv11toXAv12
import Derived.Test.YtcecmifknojgeaaGreatDoorXAv13
import Derived.Test.YtcecmifknojgeaaGreatDoorXAv14toXAv15
import Derived.Test.YtcecmifknojgeaaGreatDoorXAv15b
import Derived.Test.YtcecmifknojgeaaGreatDoorXAv16toXAv18
import Derived.Test.YtcecmifknojgeaaGreatDoorXAv19toXAv24
import Derived.Test.YtcecmifknojgeaaGreatDoorXAv25toXAv26
import Derived.Test.YtcecmifknojgeaaGreatDoorXOpenGtoXGlob
import Derived.Test.YtcecmifknojgeaaGreatDoorXDattoXCS
import Derived.Test.YtcecmifknojgeaaGreatDoorXC1
import Derived.Test.YtcecmifknojgeaaGreatDoorXC2
import Derived.Test.YtcecmifknojgeaaGreatDoorXC3toXL4
import Derived.Test.YtcecmifknojgeaaGreatDoorXL5toXL8
import Derived.Test.YtcecmifknojgeaaGreatDoorShelf
import Derived.Test.YtcecmifknojgeaaGreatDoorXL9toXL15
import Derived.Test.YtcecmifknojgeaaGreatDoorXL16toXL18
import Derived.Test.YtcecmifknojgeaaGreatDoorXL19toXOpI
import Derived.Test.YtcecmifknojgeaaGreatDoorXC4
import Derived.Test.YtcecmifknojgeaaGreatDoorXC5
import Derived.Test.YtcecmifknojgeaaGreatDoorXC6
import Derived.Test.YtcecmifknojgeaaGreatDoorXE1toXE5
import Derived.Test.YtcecmifknojgeaaGreatDoorXE6toXE9
import Derived.Test.YtcecmifknojgeaaGreatDoorXP1toXE11
import Derived.Test.YtcecmifknojgeaaGreatDoorXE12toXL27
import Derived.Test.YtcecmifknojgeaaGreatDoorXL29toXL28
import Derived.Test.YtcecmifknojgeaaGreatDoorXM1toXAv28
import Derived.Test.YtcecmifknojgeaaGreatDoorXL31toXL33
import Derived.Test.YtcecmifknojgeaaGreatDoorXL34toXL54
import Derived.Test.YtcecmifknojgeaaGreatDoorXM2toXM9
import Derived.Test.YtcecmifknojgeaaGreatDoorXE14toXE15
import Derived.Test.YtcecmifknojgeaaGreatDoorXE16toXC7
import Derived.Test.YtcecmifknojgeaaGreatDoorXN1toXN0
import Derived.Test.YtcecmifknojgeaaGreatDoorXAv32toXAv33
import Derived.Test.YtcecmifknojgeaaGreatDoorXAv34toXAv36
import Derived.Test.YtcecmifknojgeaaGreatDoorXM15
import Derived.Test.YtcecmifknojgeaaGreatDoorXM17toXM11
import Derived.Test.YtcecmifknojgeaaGreatDoorXM12toXM21
import Derived.Test.YtcecmifknojgeaaGreatDoorXM22
import Derived.Test.YtcecmifknojgeaaGreatDoorXM23toXM24
import Derived.Test.YtcecmifknojgeaaGreatDoorXM25toXM26
import Derived.Test.YtcecmifknojgeaaGreatDoorXM19toXM20
import Derived.Test.YtcecmifknojgeaaGreatDoorXM27toXM30
import Derived.Test.YtcecmifknojgeaaGreatDoorXM31toXM33
import Derived.Test.YtcecmifknojgeaaGreatDoorXN2toXN3
section
namespace Go.Proofs.YtcecmifknojgeaaGreatDoor
open Go.ChangeShapes Go.WideShapes Go.ChangeAt Go.RowKit
set_option linter.unusedVariables false
theorem cellsD : Tryz.prog.cellsOf 36 = 28 := by kernel_rfl
set_option maxRecDepth 100000
end Go.Proofs.YtcecmifknojgeaaGreatDoor
end

section
namespace Go.Av
open Go

def r9 : RL := [(4, none)]
def s9 : SCode := qs (qr [qa 2 (.boxR 8 (.t 0)), qa 3 (.boxR 28 (.t 1)), qa 4 (.mov qf)] [2, 3]) (qs (qs (qr [qa 20 (.call (.f 10) []), qa 21 (.not (.t 20)), qa 22 (mt 21), qc 23 22 (lm 8 2), qc 24 22 (.call (.f 11) [.t 23, .c (.int .i64 60)]), qc 25 22 (.not (.t 24)), qa 26 (.pick (.t 22) qt (.t 25)), qa 27 (mt 26), qc 28 27 (lm 28 3), qc 29 27 (.buildS 36 28 1 [.int .i64 0, .int .i64 0, .int .i64 0, .int .i64 0, .nil, .nil, .int .i64 0, .int .i64 0, .int .i64 0, .int .i64 0, .int .i64 0, .int .i64 0, .str [], .nil, .nil, .nil, .nil, .nil, .str [], .str [], .int .i64 0, .int .i64 0, .str [], .int .i64 0, .int .i64 0, .int .i64 0, .str [], .nil] [(0, .t 28)]), qc 30 27 (.call (.f 12) [.t 29]), qc 31 27 (.not (.t 30)), qa 32 (.pick (.t 27) qt (.t 31))] [2, 3, 32]) (.cond (.t 32) (qs (qr [qa 33 (.call (.f 10) []), qa 4 (mt 33)] [4]) .ret) .skip)) (qs (qr [qa 35 (lm 8 2), qa 36 (lm 28 3), qa 37 (.call (.f 14) [.t 35, .t 36]), qa 34 (mt 37), qa 38 (.extract 0 (.t 34)), qa 39 (.extract 1 (.t 34)), qa 5 (.alloc 27 zU), ⟨none, none, .store 8 (.t 5) (.t 38)⟩, qa 6 (mt 39)] [2, 3, 5, 6]) (qs (qs (qr [qa 40 (mt 6), qa 41 (.bin .neq (.t 40) (qi 0))] [2, 3, 5, 41]) (.cond (.t 41) (qs (qr [qa 42 (lm 8 2), qa 43 (lm 8 5), qa 44 (.call (.f 29) [.t 42, .t 43]), qa 45 (mt 44), qb 46 45 (lm 8 2), qb 47 45 (lm 28 3), qb 48 45 (.call (.f 25) [.t 46, .t 47]), qb 49 45 (.len (.t 48)), qb 50 45 (.bin .eql (.t 49) (qi 0)), qa 51 (.pick (.t 45) (.t 50) qf), qa 4 (mt 51)] [4]) .ret) .skip)) (qs (qr [qa 52 (.raw (.makeMap 59 none)), qa 7 (mt 52)] [2, 3, 5, 7]) (qs (qs (qr [qa 53 (lm 8 2), qa 54 (lm 28 3), qa 55 (.call (.f 25) [.t 53, .t 54]), qa 56 (.len (.t 55)), qa 57 (.mov (qi 0))] [2, 5, 7, 55, 56, 57]) (qs (.block 0 (.loop (qs (qr [qa 58 (.bin .lss (.t 57) (.t 56))] [2, 5, 7, 55, 56, 57, 58]) (qs (.cond (.t 58) .skip (.exit 0)) (qs (qs (.block 1 (qs (qr [qa 59 (.indexA 3 (.t 55) (.t 57)), qa 60 (lm 3 59), qa 9 (.alloc 23 [.int .i64 0, .int .i64 0, .int .i64 0]), ⟨none, none, .store 3 (.t 9) (.t 60)⟩] [2, 5, 7, 9, 55, 56, 57]) (qr [qa 61 (mt 7), qa 62 (lm 3 9), ⟨none, none, .raw (.mapUpdate 59 (.tmp 61) (.tmp 62) (.const (.bool true)))⟩] [2, 5, 7, 55, 56, 57]))) (qr [] [2, 5, 7, 55, 56, 57])) (qr [qa 63 (.bin .add (.t 57) (qi 1)), qa 57 (mt 63)] [2, 5, 7, 55, 56, 57])))))) (qr [] [2, 5, 7]))) (qs (qs (qr [qa 64 (lm 8 2), qa 65 (.call (.f 30) [.t 64]), qa 66 (.len (.t 65)), qa 67 (.mov (qi 0))] [2, 5, 7, 65, 66, 67]) (qs (.block 2 (.loop (qs (qr [qa 68 (.bin .lss (.t 67) (.t 66))] [2, 5, 7, 65, 66, 67, 68]) (qs (.cond (.t 68) .skip (.exit 2)) (qs (qs (.block 3 (qs (qr [qa 69 (.indexA 3 (.t 65) (.t 67)), qa 70 (lm 3 69), qa 11 (.alloc 23 [.int .i64 0, .int .i64 0, .int .i64 0]), ⟨none, none, .store 3 (.t 11) (.t 70)⟩] [2, 5, 7, 11, 65, 66, 67]) (qs (qr [qa 72 (lm 8 2), qa 73 (lm 3 11), qa 74 (.call (.f 31) [.t 72, .t 73]), qa 71 (mt 74), qa 75 (.extract 0 (.t 71)), qa 76 (.extract 1 (.t 71)), qa 12 (.alloc 27 zU), ⟨none, none, .store 8 (.t 12) (.t 75)⟩, qa 13 (mt 76)] [2, 5, 7, 11, 12, 65, 66, 67]) (qs (qr [qa 78 (lm 8 5), qa 79 (lm 3 11), qa 80 (.call (.f 31) [.t 78, .t 79]), qa 77 (mt 80), qa 81 (.extract 0 (.t 77)), qa 82 (.extract 1 (.t 77)), qa 14 (.alloc 27 zU), ⟨none, none, .store 8 (.t 14) (.t 81)⟩, qa 15 (mt 82)] [2, 5, 7, 11, 12, 14, 15, 65, 66, 67]) (qs (qr [qa 83 (mt 7), qa 84 (lm 3 11), qa 85 (.raw (.lookup 59 (.tmp 83) (.tmp 84) false)), qa 86 (.not (.t 85)), qa 87 (mt 86), qb 88 87 (mt 15), qb 89 87 (.not (.t 88)), qb 90 87 (mt 89), qc 91 90 (fa 3 12), qc 92 90 (lo 91), qc 93 90 (fa 3 14), qc 94 90 (lo 93), qc 95 90 (.bin .neq (.t 92) (.t 94)), qb 96 87 (.pick (.t 90) qt (.t 95)), qb 97 87 (mt 96), qc 98 97 (fa 4 12), qc 99 97 (lo 98), qc 100 97 (fa 4 14), qc 101 97 (lo 100), qc 102 97 (.bin .neq (.t 99) (.t 101)), qb 103 87 (.pick (.t 97) qt (.t 102)), qb 104 87 (mt 103), qc 105 104 (fa 5 12), qc 106 104 (lo 105), qc 107 104 (fa 5 14), qc 108 104 (lo 107), qc 109 104 (.call (.f 20) [.t 106, .t 108]), qc 110 104 (.not (.t 109)), qb 111 87 (.pick (.t 104) qt (.t 110)), qb 112 87 (mt 111), qc 113 112 (fa 6 12), qc 114 112 (lo 113), qc 115 112 (fa 6 14), qc 116 112 (lo 115), qc 117 112 (.call (.f 20) [.t 114, .t 116]), qc 118 112 (.not (.t 117)), qb 119 87 (.pick (.t 112) qt (.t 118)), qa 120 (.pick (.t 87) (.t 119) qf)] [2, 5, 7, 65, 66, 67, 120]) (.cond (.t 120) (qs (qr [qa 4 (.mov qf)] [4]) .ret) .skip)))))) (qr [] [2, 5, 7, 65, 66, 67])) (qr [qa 121 (.bin .add (.t 67) (qi 1)), qa 67 (mt 121)] [2, 5, 7, 65, 66, 67])))))) (qr [] [2, 5, 7]))) (qs (qs (qr [qa 122 (lm 8 5), qa 123 (.call (.f 30) [.t 122]), qa 124 (.len (.t 123)), qa 125 (.mov (qi 0))] [2, 7, 123, 124, 125]) (qs (.block 4 (.loop (qs (qr [qa 126 (.bin .lss (.t 125) (.t 124))] [2, 7, 123, 124, 125, 126]) (qs (.cond (.t 126) .skip (.exit 4)) (qs (qs (.block 5 (qs (qr [qa 127 (.indexA 3 (.t 123) (.t 125)), qa 128 (lm 3 127), qa 17 (.alloc 23 [.int .i64 0, .int .i64 0, .int .i64 0]), ⟨none, none, .store 3 (.t 17) (.t 128)⟩] [2, 7, 17, 123, 124, 125]) (qs (qr [qa 130 (lm 8 2), qa 131 (lm 3 17), qa 132 (.call (.f 31) [.t 130, .t 131]), qa 129 (mt 132), qa 133 (.extract 0 (.t 129)), qa 134 (.extract 1 (.t 129)), qa 18 (.alloc 27 zU), ⟨none, none, .store 8 (.t 18) (.t 133)⟩, qa 19 (mt 134)] [2, 7, 17, 19, 123, 124, 125]) (qs (qr [qa 135 (mt 19), qa 136 (.not (.t 135)), qa 137 (mt 136), qb 138 137 (mt 7), qb 139 137 (lm 3 17), qb 140 137 (.raw (.lookup 59 (.tmp 138) (.tmp 139) false)), qb 141 137 (.not (.t 140)), qa 142 (.pick (.t 137) (.t 141) qf)] [2, 7, 123, 124, 125, 142]) (.cond (.t 142) (qs (qr [qa 4 (.mov qf)] [4]) .ret) .skip))))) (qr [] [2, 7, 123, 124, 125])) (qr [qa 143 (.bin .add (.t 125) (qi 1)), qa 125 (mt 143)] [2, 7, 123, 124, 125])))))) (qr [] []))) (qs (qr [qa 4 (.mov qt)] [4]) .ret))))))))
theorem c9 : fnAt Proofs.Tryz.prog 9 [2000002, 2000003] = some (r9, s9) := by kernel_rfl

end Go.Av
end

section
namespace Go.Av
open Go

def r25 : RL := [(4, none)]
def s25 : SCode := qs (qr [qa 2 (.boxR 8 (.t 0)), qa 3 (.boxR 28 (.t 1)), qa 4 (.mov (.c .nil))] [2, 3]) (qs (qs (qr [qa 12 (lm 8 2), qa 13 (lm 28 3), qa 14 (.call (.f 14) [.t 12, .t 13]), qa 11 (mt 14), qa 15 (.extract 0 (.t 11)), qa 16 (.extract 1 (.t 11)), qa 5 (.alloc 27 zU), ⟨none, none, .store 8 (.t 5) (.t 15)⟩, qa 6 (mt 16)] [2, 3, 6]) (qs (qr [qa 17 (mt 6), qa 18 (.bin .neq (.t 17) (qi 0))] [2, 3, 18]) (.cond (.t 18) (qs (qr [qa 4 (.mov (.c .nil))] [4]) .ret) .skip))) (qs (qr [qa 20 (lm 8 2), qa 21 (fa 3 3), qa 22 (fa 1 21), qa 23 (lo 22), qa 24 (.call (.f 39) [.t 20, .t 23]), qa 19 (mt 24), qa 25 (.extract 0 (.t 19)), qa 26 (.extract 1 (.t 19)), qa 7 (.alloc 23 [.int .i64 0, .int .i64 0, .int .i64 0]), ⟨none, none, .store 3 (.t 7) (.t 25)⟩, qa 8 (mt 26)] [2, 3, 7]) (qs (qs (qr [qa 27 (fa 3 3), qa 28 (fa 0 27), qa 29 (lo 28)] [2, 3, 7, 29]) (qs (.block 0 (qs (qr [qa 31 (.bin .eql (.t 29) (qi 0)), qa 30 (mt 31)] [2, 3, 7, 29, 30]) (.cond (.t 30) (qs (qr [qa 32 (fa 3 3), qa 33 (fa 5 32), qa 34 (lm 8 33), qa 35 (fa 0 3), qa 36 (lo 35), qa 37 (fa 1 3), qa 38 (lo 37), qa 39 (.call (.f 43) [.t 34, .t 36, .t 38]), qa 40 (.call (.f 30) [.t 39]), qa 4 (mt 40)] [4]) .ret) (qs (qr [qa 42 (.bin .eql (.t 29) (qi 1)), qa 41 (mt 42)] [2, 7, 41]) (.cond (.t 41) (qs (qr [qa 44 (lm 8 2), qa 45 (lm 3 7), qa 46 (.call (.f 31) [.t 44, .t 45]), qa 43 (mt 46), qa 47 (.extract 0 (.t 43)), qa 48 (.extract 1 (.t 43)), qa 9 (.alloc 27 zU), ⟨none, none, .store 8 (.t 9) (.t 47)⟩, qa 10 (mt 48)] [9]) (qs (qr [qa 49 (lm 8 9), qa 50 (.call (.f 30) [.t 49]), qa 4 (mt 50)] [4]) .ret)) .skip))))) (qr [] [7]))) (qs (qr [qa 51 (lm 3 7), qa 52 (.buildS 23 3 1 [.int .i64 0, .int .i64 0, .int .i64 0] [(0, .t 51)]), qa 4 (mt 52)] [4]) .ret))))
theorem c25 : fnAt Proofs.Tryz.prog 25 [2000002, 2000003] = some (r25, s25) := by kernel_rfl

end Go.Av
end

section
namespace Go.Av
open Go Go.RowKit Go.Proofs
set_option linter.unusedSimpArgs false
set_option linter.unusedVariables false

theorem fnd_here {u y : U} (hn : u.ids.Nodup) (hy : y ∈ u.flat) : fnd y.id u = y := by
  have hm : y.id ∈ u.ids := List.mem_map.2 ⟨y, hy, rfl⟩
  exact same_id hn (fndm_flat u hn hm) hy (fnd_id u hn hm).1
end Go.Av
end

section
namespace Go.Av
open Go Go.RowKit Go.Proofs
set_option linter.unusedSimpArgs false
set_option linter.unusedVariables false

def aff (u : U) (d : Dd) : List Idd :=
  if (doP u d).2 ≠ 0 then [] else if d.it.kind = 0 then (stampU d.it.unit d.act d.item).ids else if d.it.kind = 1 then (fnd (one u d.it.at_).1 u).ids else [(one u d.it.at_).1]
theorem preserves {u : U} (h : Good u) (d : Dd) (hok : (doP u d).2 = 0) :
    (∀ k ∈ u.all5, k.1 ∉ aff u d → k ∈ (doP u d).1.all5) ∧ ∀ k ∈ (doP u d).1.all5, k.1 ∈ u.ids ∨ k.1 ∈ aff u d := by
  obtain ⟨hm, hc, h2, h3, hd⟩ := do_did h d hok
  have hi := one_mem (u := u) (p := d.it.at_) h2
  have hid := (fnd_id u h.nd hi).1
  unfold aff
  rw [if_neg (by rw [hok]; simp), U.ids_k5 u]
  generalize (one u d.it.at_).1 = i at *
  generalize (doP u d).1 = v at *
  have other : ∀ (A B : List K5) (k' : K5), u.all5 = A ++ ((fnd i u).k5 :: B) → v.all5 = A ++ (k' :: B) → k'.1 = i → (∀ k ∈ u.all5, k.1 ∉ [i] → k ∈ v.all5) ∧ ∀ k ∈ v.all5, k.1 ∈ u.all5.map (·.1) ∨ k.1 ∈ [i] := by
    intro A B k' e1 e2 e3
    rw [e1, e2]
    constructor
    · intro k hk hn
      rcases List.mem_append.1 hk with hk | hk
      · exact List.mem_append.2 (.inl hk)
      · rcases List.mem_cons.1 hk with rfl | hk
        · exact absurd (by rw [show (fnd i u).k5.1 = (fnd i u).id from rfl, hid]; simp) hn
        · exact List.mem_append.2 (.inr (List.mem_cons_of_mem _ hk))
    · intro k hk
      rcases List.mem_append.1 hk with hk | hk
      · exact .inl (List.mem_map.2 ⟨k, List.mem_append.2 (.inl hk), rfl⟩)
      · rcases List.mem_cons.1 hk with rfl | hk
        · exact .inr (by rw [e3]; simp)
        · exact .inl (List.mem_map.2 ⟨k, List.mem_append.2 (.inr (List.mem_cons_of_mem _ hk)), rfl⟩)
  cases hd with
  | ins A B k e1 e2 no =>
    rw [if_pos k, e1, e2, U.ids_k5]
    constructor
    · intro k hk _
      rcases List.mem_append.1 hk with hk | hk
      · exact List.mem_append.2 (.inl hk)
      · exact List.mem_append.2 (.inr (List.mem_append.2 (.inr hk)))
    · intro k hk
      rcases List.mem_append.1 hk with hk | hk
      · exact .inl (List.mem_map.2 ⟨k, List.mem_append.2 (.inl hk), rfl⟩)
      · rcases List.mem_append.1 hk with hk | hk
        · exact .inr (List.mem_map.2 ⟨k, hk, rfl⟩)
        · exact .inl (List.mem_map.2 ⟨k, List.mem_append.2 (.inr hk), rfl⟩)
  | del A B k e1 e2 =>
    rw [if_neg (by omega), if_pos k, e1, e2, U.ids_k5]
    constructor
    · intro k hk hn
      rcases List.mem_append.1 hk with hk | hk
      · exact List.mem_append.2 (.inl hk)
      · rcases List.mem_append.1 hk with hk | hk
        · exact absurd (List.mem_map.2 ⟨k, hk, rfl⟩) hn
        · exact List.mem_append.2 (.inr hk)
    · intro k hk
      rcases List.mem_append.1 hk with hk | hk
      · exact .inl (List.mem_map.2 ⟨k, List.mem_append.2 (.inl hk), rfl⟩)
      · exact .inl (List.mem_map.2 ⟨k, List.mem_append.2 (.inr (List.mem_append.2 (.inr hk))), rfl⟩)
  | words A B k e1 e2 ok => rw [if_neg (by omega), if_neg (by omega)]; exact other A B _ e1 e2 hid
  | head A B k e1 e2 => rw [if_neg (by omega), if_neg (by omega)]; exact other A B _ e1 e2 hid
  | label A B k e1 e2 => rw [if_neg (by omega), if_neg (by omega)]; exact other A B _ e1 e2 hid
  | move A B C D k e1 e2 e3 =>
    rw [if_neg (by omega), if_neg (by omega), e1, e2]
    have hmem : ∀ k, k ∈ A ++ ((fnd i u).all5 ++ B) ↔ k ∈ C ++ ((fnd i u).all5 ++ D) := by
      intro k
      have : k ∈ A ++ B ↔ k ∈ C ++ D := by rw [e3]
      simp only [List.mem_append] at this ⊢
      constructor
      · rintro (hk | hk | hk)
        · rcases this.1 (.inl hk) with hk | hk
          · exact .inl hk
          · exact .inr (.inr hk)
        · exact .inr (.inl hk)
        · rcases this.1 (.inr hk) with hk | hk
          · exact .inl hk
          · exact .inr (.inr hk)
      · rintro (hk | hk | hk)
        · rcases this.2 (.inl hk) with hk | hk
          · exact .inl hk
          · exact .inr (.inr hk)
        · exact .inr (.inl hk)
        · rcases this.2 (.inr hk) with hk | hk
          · exact .inl hk
          · exact .inr (.inr hk)
    exact ⟨fun k hk _ => (hmem k).1 hk, fun k hk => .inl (List.mem_map.2 ⟨k, (hmem k).2 hk, rfl⟩)⟩
end Go.Av
end

section
namespace Go.Av
open Go Go.RowKit Go.Proofs
set_option linter.unusedSimpArgs false
set_option linter.unusedVariables false

section
variable (G : Glob) (hG : GOk G)
include hG
set_option maxHeartbeats 4000000 in
theorem f25 (u : U) (hu : Good u) (d : Dd) (hs : d.it.Shorts) : Pure G Tryz.prog 25 [.agg u.cs, .agg d.cs] (.lst 3 ((aff u d).map Idd.cs)) := by
  have hA := f14 G hG u hu d hs
  obtain ⟨q1, _⟩ := (Itm.Shorts_eq d.it).1 hs
  have hO := f39 G u d.it.at_ hu.short.1 hu.cnt q1.at_
  have hdid := do_did hu d
  unfold resAV at hA
  unfold oneAV at hO
  unfold aff
  obtain ⟨⟨v, e⟩, hve⟩ : ∃ z, doP u d = z := ⟨_, rfl⟩
  rw [hve] at hA hdid ⊢
  have hcs := U.cs_eq u
  rcases Classical.em (e = 0) with he | he
  · subst he
    obtain ⟨hm, hc, ho, hk0, _⟩ := hdid rfl
    clear hdid
    simp only at hA ⊢
    rw [if_neg (by simp)]
    have hi := one_mem (u := u) (p := d.it.at_) ho
    obtain ⟨⟨i, o⟩, hio⟩ : ∃ z, one u d.it.at_ = z := ⟨_, rfl⟩
    rw [hio] at hO ho hi ⊢
    simp only at hO ho hi ⊢
    subst ho
    rcases Classical.em (d.it.kind = 0) with h0 | h0
    · rw [if_pos h0]
      have e1 : decide (d.it.kind = 0) = true := decide_eq_true h0
      have hd : Unit0 d := ⟨may_unit hm h0, may_cnt hm h0⟩
      have hus := nodes_short hd.nodes (by have := hd.cnt; omega)
      have hSt := f43 G d.it.unit d.act d.item hus (by have h1 := wt_le hd.nodes; have h2 := hd.cnt; omega)
      obtain ⟨s1, s2, s3, s4, s5⟩ := stampU_ok d.it.unit d.act d.item hd.nodes
      obtain ⟨x, hx⟩ : ∃ x, stampU d.it.unit d.act d.item = x := ⟨_, rfl⟩
      rw [hx] at hSt s3 s5 ⊢
      have hxs : x.Short := nodes_short s5 (by rw [s3]; have := hd.cnt; omega)
      have hI := f30 G x hxs.1
      clear s1 s2 s4 s5 hd
      unfold Dd.cs at hA ⊢
      rw [Itm.cs_eq] at hA ⊢
      rw [U.cs_eq d.it.unit] at hSt
      refine Pure.w c25 fun R hR => ?_
      unfold s25 r25
      (repeat' (first | (with_reducible refine CALL_pure (hA) ?_) | (with_reducible refine CALL_pure (hO) ?_) | (with_reducible refine CALL_pure (hSt) ?_) | (with_reducible refine CALL_pure (hI) ?_) | simp -dsimp -implicitDefEqProofs only [EVz, seval, ↓reduceIte, reduceCtorEq, EV6, EV7, e1, hne] | simp -dsimp -implicitDefEqProofs only [EVz, seval, ↓reduceIte, reduceCtorEq, EV6, EV7, e1] | (with_reducible intro blk hblk; (try (have hnx := hblk; simp only [EVK] at hnx; first | (have hne := And.intro hnx hne) | (have hne := hnx)))) | fail))
      all_goals exact hR _ _ (.inl (.inl rfl))
    · rw [if_neg h0]
      have e1 : decide (d.it.kind = 0) = false := decide_eq_false h0
      rcases Classical.em (d.it.kind = 1) with h1 | h1
      · rw [if_pos h1]
        have e2 : decide (d.it.kind = 1) = true := decide_eq_true h1
        have hF := f31 G i u hu.short
        unfold fndAV at hF
        rw [fnd_way hi, if_neg (by simp)] at hF
        have hI := f30 G (fnd i u) (hu.short.node (fndm_flat u hu.nd hi)).1
        simp only [Idd.cs] at hF
        unfold Dd.cs at hA ⊢
        rw [Itm.cs_eq] at hA ⊢
        refine Pure.w c25 fun R hR => ?_
        unfold s25 r25
        (repeat' (first | (with_reducible refine CALL_pure (hA) ?_) | (with_reducible refine CALL_pure (hO) ?_) | (with_reducible refine CALL_pure (hF) ?_) | (with_reducible refine CALL_pure (hI) ?_) | simp -dsimp -implicitDefEqProofs only [EVz, seval, ↓reduceIte, reduceCtorEq, EV6, EV7, e1, e2, hne] | simp -dsimp -implicitDefEqProofs only [EVz, seval, ↓reduceIte, reduceCtorEq, EV6, EV7, e1, e2] | (with_reducible intro blk hblk; (try (have hnx := hblk; simp only [EVK] at hnx; first | (have hne := And.intro hnx hne) | (have hne := hnx)))) | fail))
        all_goals exact hR _ _ (.inl (.inl rfl))
      · rw [if_neg h1]
        have e2 : decide (d.it.kind = 1) = false := decide_eq_false h1
        unfold Dd.cs at hA ⊢
        rw [Itm.cs_eq] at hA ⊢
        refine Pure.w c25 fun R hR => ?_
        unfold s25 r25
        (repeat' (first | (with_reducible refine CALL_pure (hA) ?_) | (with_reducible refine CALL_pure (hO) ?_) | simp -dsimp -implicitDefEqProofs only [EVz, seval, ↓reduceIte, reduceCtorEq, EV6, EV7, e1, e2, hne] | simp -dsimp -implicitDefEqProofs only [EVz, seval, ↓reduceIte, reduceCtorEq, EV6, EV7, e1, e2] | (with_reducible intro blk hblk; (try (have hnx := hblk; simp only [EVK] at hnx; first | (have hne := And.intro hnx hne) | (have hne := hnx)))) | (refine ⟨[[.int .i64 i.act, .int .i64 i.item, .int .i64 i.n]], rfl, (by simp), rfl, ?_⟩) | fail))
        all_goals exact hR _ _ (.inl (.inr ⟨rfl, rfl⟩))
  · simp only at hA ⊢
    rw [if_pos he]
    unfold Dd.cs at hA ⊢
    rw [Itm.cs_eq] at hA ⊢
    clear hdid
    refine Pure.w c25 fun R hR => ?_
    unfold s25 r25
    have e1 : decide (e ≠ 0) = true := decide_eq_true he
    (repeat' (first | (with_reducible refine CALL_pure (hA) ?_) | simp -dsimp -implicitDefEqProofs only [EVz, seval, ↓reduceIte, reduceCtorEq, EV6, EV7, e1] | (with_reducible intro blk hblk; (try (have hnx := hblk; simp only [EVK] at hnx; (have hne := hnx)))) | fail))
    all_goals exact hR _ _ (.inl (.inr rfl))
end
end Go.Av
end

section
namespace Go.Av
open Go Go.RowKit Go.Proofs
set_option linter.unusedSimpArgs false
set_option linter.unusedVariables false

theorem k5_fnd {v : U} (hn : v.ids.Nodup) {k : K5} (h : k ∈ v.all5) : k.1 ∈ v.ids ∧ (fnd k.1 v).k5 = k := by
  obtain ⟨y, hy, rfl⟩ := all5_node h
  have hm : y.id ∈ v.ids := by unfold U.ids; exact List.mem_map.2 ⟨y, hy, rfl⟩
  exact ⟨hm, by show (fnd y.id v).k5 = y.k5; rw [fnd_here hn hy]⟩
theorem k5_at {u : U} (hn : u.ids.Nodup) {i : Idd} (hi : i ∈ u.ids) : (fnd i u).k5 ∈ u.all5 ∧ (fnd i u).k5.1 = i := by
  refine ⟨List.mem_map.2 ⟨_, fndm_flat u hn hi, rfl⟩, (fnd_id u hn hi).1⟩
theorem few_one (d : Dd) : fewB [d] = d.it.little := by unfold fewB; simp

section
variable (G : Glob) (hG : GOk G)
include hG
set_option maxHeartbeats 20000000 in
theorem f9 (u : U) (hfit : u.fit) (d : Dd) (hb : d.it.big) : Pure G Tryz.prog 9 [.agg u.cs, .agg d.cs] (.bool true) := by
  have hAw := f10 G hG
  have hB := f11 G hG u 60 hfit (by omega) (by omega)
  have hF := f12 G [d] (by simp) (fun x hx => by simp only [List.mem_singleton] at hx; subst hx; exact hb)
  rw [few_one] at hF
  have hds : d.cs.length = 28 := by unfold Dd.cs; simp [Itm.cs_len]
  cases h1 : bookB u 60 with
  | false =>
    rw [h1] at hB
    unfold Dd.cs
    rw [Itm.cs_eq]
    refine Pure.w c9 fun R hR => ?_
    unfold s9 r9
    (repeat' (first | (with_reducible refine CALL_pure (hAw) ?_) | (with_reducible refine CALL_pure (hB) ?_) | simp -dsimp -implicitDefEqProofs only [EVz, seval, ↓reduceIte, reduceCtorEq, EV6, EV7] | fail))
    all_goals exact hR _ _ (.inl (.inl rfl))
  | true =>
    rw [h1] at hB
    cases h2 : d.it.little with
    | false =>
      rw [h2] at hF
      simp only [List.map_cons, List.map_nil] at hF
      unfold Dd.cs at hF hds ⊢
      rw [Itm.cs_eq] at hF hds ⊢
      refine Pure.w c9 fun R hR => ?_
      unfold s9 r9
      (repeat' (first | (with_reducible refine CALL_pure (hAw) ?_) | (with_reducible refine CALL_pure (hB) ?_) | simp -dsimp -implicitDefEqProofs only [EVz, seval, ↓reduceIte, reduceCtorEq, EV6, EV7, hne] | simp -dsimp -implicitDefEqProofs only [EVz, seval, ↓reduceIte, reduceCtorEq, EV6, EV7] | (with_reducible intro blk hblk; (try (have hnx := hblk; simp only [EVK] at hnx; (have hne := hnx)))) | (refine ⟨[_], rfl, (by intro r hr; simp only [List.mem_singleton] at hr; subst hr; exact hds), rfl, ?_⟩) | (refine CALL_pure_le hF ⟨.inl (.inr ⟨rfl, rfl⟩), trivial⟩ ?_) | fail))
      all_goals exact hR _ _ (.inl (.inl rfl))
    | true =>
      rw [h2] at hF
      have hg := book_good h1
      have hsh := little_shorts d.it hb h2
      have hA := f14 G hG u hg d hsh
      have hAf := f25 G hG u hg d hsh
      have hgv := (do_good hg d).1
      have herr := doP_err (u := u) (d := d)
      have hpre := preserves hg d
      unfold resAV at hA
      simp only [List.map_cons, List.map_nil] at hF
      obtain ⟨⟨v, e⟩, hve⟩ : ∃ z, doP u d = z := ⟨_, rfl⟩
      rw [hve] at hA hgv herr hpre
      simp only at hA hgv herr hpre
      rcases Classical.em (e = 0) with he | he
      · subst he
        obtain ⟨p1, p2⟩ := hpre rfl
        have e0 : decide ((0 : Int) ≠ 0) = false := decide_eq_false (by simp)
        obtain ⟨L, hL⟩ : ∃ L, aff u d = L := ⟨_, rfl⟩
        rw [hL] at hAf p1 p2
        have hLl : L.length ≤ 1048576 := by
          rw [← hL]
          unfold aff
          rw [hve, if_neg (by simp)]
          split
          · rename_i h0
            have hm := (do_did hg d (by rw [hve])).1
            have h3 := (stampU_ok d.it.unit d.act d.item (may_unit hm h0)).2.2.1
            have h4 := may_cnt hm h0
            unfold U.ids
            rw [List.length_map, h3]; omega
          · split
            · have ho := (do_did hg d (by rw [hve])).2.2.1
              have hi := one_mem (u := u) (p := d.it.at_) ho
              have h5 := (hg.short.node (fndm_flat u hg.nd hi)).1.2
              unfold U.ids
              rw [List.length_map]; omega
            · simp
        clear hL herr hve
        have hIu := f30 G u hg.short.1
        have hIv := f30 G v hgv.short.1
        have hul : u.ids.length ≤ 1024 := by unfold U.ids; rw [List.length_map]; exact hg.cnt
        have hvl : v.ids.length ≤ 1024 := by unfold U.ids; rw [List.length_map]; exact hgv.cnt
        have hFu := fun i => f31 G i u hg.short
        have hFv := fun i => f31 G i v hgv.short
        unfold Dd.cs at hF hds hA hAf ⊢
        rw [Itm.cs_eq] at hF hds hA hAf ⊢
        refine Pure.w c9 fun R hR => ?_
        unfold s9 r9
        (repeat' (first | (with_reducible refine CALL_pure (hAw) ?_) | (with_reducible refine CALL_pure (hB) ?_) | (with_reducible refine CALL_pure (hA) ?_) | simp -dsimp -implicitDefEqProofs only [EVz, seval, ↓reduceIte, reduceCtorEq, EV6, EV7, hne] | simp -dsimp -implicitDefEqProofs only [EVz, seval, ↓reduceIte, reduceCtorEq, EV6, EV7] | (with_reducible intro blk hblk; (try (have hnx := hblk; simp only [EVK] at hnx; first | (have hne := And.intro hnx hne) | (have hne := hnx)))) | (refine ⟨[_], rfl, (by intro r hr; simp only [List.mem_singleton] at hr; subst hr; exact hds), rfl, ?_⟩) | (refine CALL_pure_le hF ⟨.inl (.inr ⟨rfl, rfl⟩), trivial⟩ ?_) | fail))
        refine RAW_makeMap ?_
        intro b7 hb7
        generalize hbe : blk = b5 at *
        have k1 : ¬ b7 = b5 := by simp [Store.keys] at hb7; exact hb7.1
        have k1' : ¬ b5 = b7 := fun e => k1 e.symm
        clear hne hnx hblk hb7 hbe
        (repeat' (first | (with_reducible refine CALL_pure (hAf) ?_) | simp -dsimp -implicitDefEqProofs only [EVz, seval, ↓reduceIte, reduceCtorEq, EV6, EV7, k1, k1', hne] | fail))
        refine W_list (ι := List Idd) L (fun i r c => ∀ y, y ∈ c ↔ y ∈ L.take i) (fun i c => [(2, .ref u.cs), (5, .sc (.pointer (some ⟨b5, 0, none⟩))), (7, .sc (.map (some b7))), (55, .lst 3 (L.map Idd.cs)), (56, .int .i64 L.length), (57, .int .i64 i)]) (fun i c => [(b7, .map (mrows idVal (mset c))), (b5, .cells 27 v.cs)]) [] (by simp) (Weak.sub ⟨fun p hp => by (simp only [List.mem_cons, List.not_mem_nil, or_false] at hp; rcases hp with rfl | rfl <;> simp [mset, mrows]), fun _ => by simp [Store.keys, k1]⟩) (by omega) (fun i x r c hok hx hw => ?_) (fun c hok hn => ?_)
        · (repeat' (first | simp -dsimp -implicitDefEqProofs only [EVz, seval, ↓reduceIte, reduceCtorEq, EV6, EV7, hx.yes, hx.le0, hx.lt', hx.get, hx.row, hw, k1, k1', mset_put, hne] | (with_reducible intro blk hblk; (try (have hnx := hblk; simp only [EVK] at hnx; (have hne := And.intro hnx hne)))) | (refine RAW_mapUpdate mapK_id (l := mset c) (k := x) (yv := .bool true) rfl (rep_id x) rfl (eT := 4) (by kernel_rfl) (by simp [Store.get, *]) ?_) | fail))
          refine LK_next hx (if x ∈ c then c else c ++ [x]) (fun y => ?_) (Weak.sub (SubN.tail (SubN.refl _) _))
          rw [hx.take, List.mem_append, ← hok, List.mem_singleton]
          by_cases hxc : x ∈ c
          · rw [if_pos hxc]
            exact ⟨.inl, fun h => h.elim id (fun e => e ▸ hxc)⟩
          · rw [if_neg hxc, List.mem_append, List.mem_singleton]
        · rw [List.take_length] at hok
          (repeat' (first | (with_reducible refine CALL_pure (hIu) ?_) | simp -dsimp -implicitDefEqProofs only [EVz, seval, ↓reduceIte, reduceCtorEq, EV6, EV7, hn, k1, k1', hne] | fail))
          refine W_list u.ids (fun i r (c0 : Unit) => True) (fun i c0 => [(2, .ref u.cs), (5, .sc (.pointer (some ⟨b5, 0, none⟩))), (7, .sc (.map (some b7))), (65, .lst 3 (u.ids.map Idd.cs)), (66, .int .i64 u.ids.length), (67, .int .i64 i)]) (fun i c0 => [(b7, .map (mrows idVal (mset c))), (b5, .cells 27 v.cs)]) () trivial (Weak.rfl' _ _) (by omega) (fun i x r c0 hok2 hx hw => ?_) (fun c0 hok2 hn2 => ?_)
          · have hF1 := hFu x
            unfold fndAV at hF1
            rw [fnd_way hx.mem, if_neg (by simp), U.cs_eq (fnd x u)] at hF1
            have hF2 := hFv x
            unfold fndAV at hF2
            simp only [Idd.cs] at hF1 hF2
            by_cases ht : x ∈ c
            · have t1 : decide (x ∈ c) = true := decide_eq_true ht
              by_cases hv : x ∈ v.ids
              case' pos => rw [fnd_way hv, if_neg (by simp), U.cs_eq (fnd x v)] at hF2
              case' neg =>
                have hw0 : (U.way x v).isEmpty = true := by rw [(way_no v).2 hv]; rfl
                rw [hw0, if_pos rfl] at hF2
                unfold zU at hF2
              all_goals
                (repeat' (first | (with_reducible refine CALL_pure (hF1) ?_) | (with_reducible refine CALL_pure (hF2) ?_) | simp -dsimp -implicitDefEqProofs only [EVz, seval, ↓reduceIte, reduceCtorEq, EV6, EV7, mset_get, t1, hx.yes, hx.le0, hx.lt', hx.get, hx.row, hw, k1, k1', hne] | (with_reducible intro blk hblk; (try (have hnx := hblk; simp only [EVK] at hnx; (have hne := And.intro hnx hne)))) | (refine RAW_lookup mapK_id (l := mset c) (k := x) (z := .bool false) (zv := .bool false) rfl (rep_id x) (eT := 4) (by kernel_rfl) (by simp [Store.get, *]) (by kernel_rfl) (fun _ _ => by simp only [Rep]) ?_) | fail))
                exact LK_next hx () trivial (Weak.sub (SubN.tail (SubN.tail (SubN.tail (SubN.refl _) _) _) _))
            · have t1 : decide (x ∈ c) = false := decide_eq_false ht
              obtain ⟨m1, m2⟩ := k5_at hg.nd hx.mem
              have m5 := p1 _ m1 (by rw [m2]; exact fun h => ht ((hok x).2 h))
              obtain ⟨m3, m4⟩ := k5_fnd hgv.nd m5
              rw [m2] at m3 m4
              have g1 : (fnd x v).kind = (fnd x u).kind := congrArg (fun k : K5 => k.2.1) m4
              have g2 : (fnd x v).label = (fnd x u).label := congrArg (fun k : K5 => k.2.2.1) m4
              have g3 : (fnd x v).head = (fnd x u).head := congrArg (fun k : K5 => k.2.2.2.1) m4
              have g4 : (fnd x v).words = (fnd x u).words := congrArg (fun k : K5 => k.2.2.2.2) m4
              rw [fnd_way m3, if_neg (by simp), U.cs_eq (fnd x v), g1, g2, g3, g4] at hF2
              have hsl := nodeOk_slim (hg.node _ (fndm_flat u hg.nd hx.mem))
              have hW1 := f20 G (fnd x u).head (fnd x u).head (by have := hsl.head.1; omega)
              have hW2 := f20 G (fnd x u).words (fnd x u).words (by have := hsl.words.1; omega)
              rw [decide_eq_true rfl] at hW1 hW2
              have d1 : decide ((fnd x u).kind ≠ (fnd x u).kind) = false := decide_eq_false (fun h => h rfl)
              have d2 : decide ((fnd x u).label ≠ (fnd x u).label) = false := decide_eq_false (fun h => h rfl)
              (repeat' (first | (with_reducible refine CALL_pure (hF1) ?_) | (with_reducible refine CALL_pure (hF2) ?_) | (with_reducible refine CALL_pure (hW1) ?_) | (with_reducible refine CALL_pure (hW2) ?_) | simp -dsimp -implicitDefEqProofs only [EVz, seval, ↓reduceIte, reduceCtorEq, EV6, EV7, mset_get, t1, d1, d2, hx.yes, hx.le0, hx.lt', hx.get, hx.row, hw, k1, k1', hne] | (with_reducible intro blk hblk; (try (have hnx := hblk; simp only [EVK] at hnx; (have hne := And.intro hnx hne)))) | (refine RAW_lookup mapK_id (l := mset c) (k := x) (z := .bool false) (zv := .bool false) rfl (rep_id x) (eT := 4) (by kernel_rfl) (by simp [Store.get, *]) (by kernel_rfl) (fun _ _ => by simp only [Rep]) ?_) | fail))
              exact LK_next hx () trivial (Weak.sub (SubN.tail (SubN.tail (SubN.tail (SubN.refl _) _) _) _))
          · (repeat' (first | (with_reducible refine CALL_pure (hIv) ?_) | simp -dsimp -implicitDefEqProofs only [EVz, seval, ↓reduceIte, reduceCtorEq, EV6, EV7, hn2, k1, k1', hne] | fail))
            refine W_list v.ids (fun i r (c0 : Unit) => True) (fun i c0 => [(2, .ref u.cs), (7, .sc (.map (some b7))), (123, .lst 3 (v.ids.map Idd.cs)), (124, .int .i64 v.ids.length), (125, .int .i64 i)]) (fun i c0 => [(b7, .map (mrows idVal (mset c)))]) () trivial (Weak.sub ⟨fun p hp => by (simp only [List.mem_singleton] at hp; subst hp; simp), fun _ => by simp [Store.keys]⟩) (by omega) (fun i x r c0 hok3 hx hw => ?_) (fun c0 hok3 hn3 => ?_)
            · have hF1 := hFu x
              unfold fndAV at hF1
              simp only [Idd.cs] at hF1
              by_cases hxu : x ∈ u.ids
              · rw [fnd_way hxu, if_neg (by simp), U.cs_eq (fnd x u)] at hF1
                (repeat' (first | (with_reducible refine CALL_pure (hF1) ?_) | simp -dsimp -implicitDefEqProofs only [EVz, seval, ↓reduceIte, reduceCtorEq, EV6, EV7, mset_get, hx.yes, hx.le0, hx.lt', hx.get, hx.row, hw, k1, k1', hne] | (with_reducible intro blk hblk; (try (have hnx := hblk; simp only [EVK] at hnx; (have hne := And.intro hnx hne)))) | fail))
                exact LK_next hx () trivial (Weak.sub (SubN.tail (SubN.tail (SubN.refl _) _) _))
              · have hw0 : (U.way x u).isEmpty = true := by rw [(way_no u).2 hxu]; rfl
                rw [hw0, if_pos rfl] at hF1
                unfold zU at hF1
                obtain ⟨m1, m2⟩ := k5_at hgv.nd hx.mem
                have m3 := p2 _ m1
                rw [m2] at m3
                have t1 : decide (x ∈ c) = true := decide_eq_true ((hok x).2 (m3.resolve_left hxu))
                (repeat' (first | (with_reducible refine CALL_pure (hF1) ?_) | simp -dsimp -implicitDefEqProofs only [EVz, seval, ↓reduceIte, reduceCtorEq, EV6, EV7, mset_get, t1, hx.yes, hx.le0, hx.lt', hx.get, hx.row, hw, k1, k1', hne] | (with_reducible intro blk hblk; (try (have hnx := hblk; simp only [EVK] at hnx; (have hne := And.intro hnx hne)))) | (refine RAW_lookup mapK_id (l := mset c) (k := x) (z := .bool false) (zv := .bool false) rfl (rep_id x) (eT := 4) (by kernel_rfl) (by simp [Store.get, *]) (by kernel_rfl) (fun _ _ => by simp only [Rep]) ?_) | fail))
                exact LK_next hx () trivial (Weak.sub (SubN.tail (SubN.tail (SubN.refl _) _) _))
            · (repeat' (simp -dsimp -implicitDefEqProofs only [EVz, seval, ↓reduceIte, reduceCtorEq, EV6, EV7, hn3, k1, k1', hne]))
              exact hR _ _ (.inl (.inl rfl))
      · have hvu := herr he
        subst hvu
        have hEq := f29 G v hfit v
        rw [decide_eq_true (rfl : v = v)] at hEq
        have hL0 : aff v d = [] := by unfold aff; rw [hve, if_pos he]
        rw [hL0] at hAf
        simp only [List.map_nil] at hAf
        unfold Dd.cs at hF hds hA hAf ⊢
        rw [Itm.cs_eq] at hF hds hA hAf ⊢
        have e1 : decide (e ≠ 0) = true := decide_eq_true he
        refine Pure.w c9 fun R hR => ?_
        unfold s9 r9
        (repeat' (first | (with_reducible refine CALL_pure (hAw) ?_) | (with_reducible refine CALL_pure (hB) ?_) | (with_reducible refine CALL_pure (hA) ?_) | (with_reducible refine CALL_pure (hEq) ?_) | (with_reducible refine CALL_pure (hAf) ?_) | simp -dsimp -implicitDefEqProofs only [EVz, seval, ↓reduceIte, reduceCtorEq, EV6, EV7, e1, hne] | simp -dsimp -implicitDefEqProofs only [EVz, seval, ↓reduceIte, reduceCtorEq, EV6, EV7, e1] | (with_reducible intro blk hblk; (try (have hnx := hblk; simp only [EVK] at hnx; first | (have hne := And.intro hnx hne) | (have hne := hnx)))) | (refine ⟨[_], rfl, (by intro r hr; simp only [List.mem_singleton] at hr; subst hr; exact hds), rfl, ?_⟩) | (refine CALL_pure_le hF ⟨.inl (.inr ⟨rfl, rfl⟩), trivial⟩ ?_) | fail))
        all_goals exact hR _ _ (.inl (.inl rfl))
end
end Go.Av
end
