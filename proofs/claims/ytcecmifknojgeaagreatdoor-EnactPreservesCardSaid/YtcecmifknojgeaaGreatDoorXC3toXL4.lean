/-
  THE TRANSLATED CODE. Printed by mkcode2.py.
-/
import Derived.Test.YtcecmifknojgeaaGreatDoorXDattoXCS
import Derived.Test.YtcecmifknojgeaaGreatDoorXAv25toXAv26
import Derived.Test.YtcecmifknojgeaaGreatDoorProg
import Derived.Test.YtcecmifknojgeaaGreatDoorXC1
import Derived.Test.YtcecmifknojgeaaGreatDoorXC2
section
namespace Go.Av
open Go

def r29 : RL := [(4, none)]
def s29 : SCode := qs (qr [qa 2 (.boxR 8 (.t 0)), qa 3 (.boxR 8 (.t 1)), qa 4 (.mov qf)] [2, 3]) (qs (qr [qa 5 (fa 0 2), qa 6 (lm 3 5), qa 7 (fa 0 3), qa 8 (lm 3 7), qa 9 (.eqs false [1, 1, 1] (.t 6) (.t 8)), qa 10 (mt 9), qb 11 10 (fa 3 2), qb 12 10 (lo 11), qb 13 10 (fa 3 3), qb 14 10 (lo 13), qb 15 10 (.bin .eql (.t 12) (.t 14)), qa 16 (.pick (.t 10) (.t 15) qf), qa 17 (mt 16), qb 18 17 (fa 4 2), qb 19 17 (lo 18), qb 20 17 (fa 4 3), qb 21 17 (lo 20), qb 22 17 (.bin .eql (.t 19) (.t 21)), qa 23 (.pick (.t 17) (.t 22) qf), qa 24 (mt 23), qb 25 24 (fa 5 2), qb 26 24 (lo 25), qb 27 24 (fa 5 3), qb 28 24 (lo 27), qb 29 24 (.call (.f 46) [.t 26, .t 28]), qa 30 (.pick (.t 24) (.t 29) qf), qa 31 (mt 30), qb 32 31 (fa 6 2), qb 33 31 (lo 32), qb 34 31 (fa 6 3), qb 35 31 (lo 34), qb 36 31 (.call (.f 46) [.t 33, .t 35]), qa 37 (.pick (.t 31) (.t 36) qf), qa 38 (mt 37), qb 39 38 (fa 7 2), qb 40 38 (lo 39), qb 41 38 (fa 7 3), qb 42 38 (lo 41), qb 43 38 (.call (.f 47) [.t 40, .t 42, .f 29]), qa 44 (.pick (.t 38) (.t 43) qf), qa 4 (mt 44)] [4]) .ret)
theorem c29 : fnAt Proofs.Tryz.prog 29 [2000002, 2000003] = some (r29, s29) := by kernel_rfl

def r38 : RL := [(2, none)]
def s38 : SCode := qs (qr [qa 1 (.boxR 25 (.t 0)), qa 2 (.mov qf)] [1]) (qs (.drawT (.step (qa 8 (fa 0 1)) (.step (qa 9 (.loadF false 1 (.t 8))) (.both (.step (qa 7 (.call (.f 66) [])) (.both (.step (qa 10 (.raw (.lookup 109 (.tmp 7) (.tmp 9) true))) (.step (qa 6 (mt 10)) (.step (qa 11 (.extract 0 (.t 6))) (.step (qa 12 (.extract 1 (.t 6))) (.step (qa 3 (.alloc 107 [.sc .nilFunc, .sc .nilFunc])) (.step ⟨none, none, .store 2 (.t 3) (.t 11)⟩ (.step (qa 4 (mt 12)) .done))))))) (.step (qa 3 (.alloc 107 [.sc .nilFunc, .sc .nilFunc])) (.step (qa 10 (.raw (.lookup 109 (.tmp 7) (.tmp 9) true))) (.step (qa 6 (mt 10)) (.step (qa 11 (.extract 0 (.t 6))) (.step (qa 12 (.extract 1 (.t 6))) (.step ⟨none, none, .store 2 (.t 3) (.t 11)⟩ (.step (qa 4 (mt 12)) .done))))))))) (.step (qa 3 (.alloc 107 [.sc .nilFunc, .sc .nilFunc])) (.step (qa 7 (.call (.f 66) [])) (.step (qa 10 (.raw (.lookup 109 (.tmp 7) (.tmp 9) true))) (.step (qa 6 (mt 10)) (.step (qa 11 (.extract 0 (.t 6))) (.step (qa 12 (.extract 1 (.t 6))) (.step ⟨none, none, .store 2 (.t 3) (.t 11)⟩ (.step (qa 4 (mt 12)) .done))))))))))) [1, 3, 4]) (qs (qs (qr [qa 13 (mt 4), qa 14 (.not (.t 13))] [1, 3, 14]) (.cond (.t 14) (qs (qr [qa 2 (.mov qf)] [2]) .ret) .skip)) (qs (qr [qa 15 (fa 0 3), qa 16 (lo 15), qa 17 (lm 25 1), qa 18 (.call (.t 16) [.t 17]), qa 5 (.alloc 34 zItm), ⟨none, none, .store 25 (.t 5) (.t 18)⟩] [1, 3, 5]) (qs (qr [qa 19 (fa 0 1), qa 20 (lo 19), qa 21 (fa 0 5), ⟨none, none, .store 1 (.t 21) (.t 20)⟩] [1, 3, 5]) (qs (qs (qr [qa 22 (fa 0 1), qa 23 (lo 22), qa 24 (.call (.f 41) [.t 23])] [1, 3, 5, 24]) (.cond (.t 24) (qs (.drawL [qa 25 (fa 1 1), qa 26 (.loadF false 1 (.t 25)), qa 27 (fa 16 1), qa 28 (.loadF false 1 (.t 27)), qa 29 (fa 17 1), qa 30 (.loadF true 3 (.t 29)), qa 31 (fa 1 5), ⟨none, none, .store 1 (.t 31) (.t 26)⟩, qa 32 (fa 16 5), ⟨none, none, .store 1 (.t 32) (.t 28)⟩, qa 33 (fa 17 5), ⟨none, none, .store 3 (.t 33) (.t 30)⟩] [1, 3, 5]) (qs (qr [qa 34 (fa 1 1), qa 35 (lo 34), qa 36 (.call (.f 67) [.t 35]), qa 37 (.not (.t 36)), qa 38 (mt 37), qc 39 38 (fa 16 1), qc 40 38 (lo 39), qc 41 38 (.bin .neq (.t 40) (.c (.str []))), qc 42 38 (mt 41), qb 43 42 (fa 16 1), qb 44 42 (lo 43), qb 45 42 (.call (.f 68) [.t 44]), qb 46 42 (.not (.t 45)), qc 47 38 (.pick (.t 42) (.t 46) qf), qa 48 (.pick (.t 38) qt (.t 47)), qa 49 (mt 48), qc 50 49 (fa 17 1), qc 51 49 (lm 3 50), qc 52 49 (.call (.f 69) [.t 51]), qc 53 49 (.not (.t 52)), qa 54 (.pick (.t 49) qt (.t 53))] [1, 3, 5, 54]) (.cond (.t 54) (qs (qr [qa 2 (.mov qf)] [2]) .ret) .skip))) .skip)) (qs (qr [qa 55 (lm 25 1), qa 56 (lm 25 5), qa 57 (.call (.f 70) [.t 55, .t 56]), qa 58 (mt 57), qb 59 58 (fa 1 3), qb 60 58 (lo 59), qb 61 58 (lm 25 1), qb 62 58 (.call (.t 60) [.t 61]), qa 63 (.pick (.t 58) (.t 62) qf), qa 2 (mt 63)] [2]) .ret))))))
theorem c38 : fnAt Proofs.Tryz.prog 38 [2000001] = some (r38, s38) := by kernel_rfl

def r41 : RL := [(2, none)]
def s41 : SCode := qs (qr [qa 2 (.mov qf)] [0]) (qs (qr [qa 3 (mt 0), qa 4 (.bin .geq (.t 3) (qi 0)), qa 5 (mt 4), qb 6 5 (mt 0), qb 7 5 (.bin .leq (.t 6) (qi 6)), qa 8 (.pick (.t 5) (.t 7) qf), qa 2 (mt 8)] [2]) .ret)
theorem c41 : fnAt Proofs.Tryz.prog 41 [] = some (r41, s41) := by kernel_rfl

def r47 : RL := [(6, none)]
def s47 : SCode := qs (qr [qa 6 (.mov qf)] [0, 1, 2]) (qs (qs (qr [qa 10 (mt 0), qa 11 (.len (.t 10)), qa 12 (mt 1), qa 13 (.len (.t 12)), qa 14 (.bin .neq (.t 11) (.t 13))] [0, 1, 2, 14]) (.cond (.t 14) (qs (qr [qa 6 (.mov qf)] [6]) .ret) .skip)) (qs (qs (qr [qa 15 (mt 0), qa 16 (.len (.t 15)), qa 17 (.mov (qi 0))] [1, 2, 15, 16, 17]) (qs (.block 0 (.loop (qs (qr [qa 18 (.bin .lss (.t 17) (.t 16))] [1, 2, 15, 16, 17, 18]) (qs (.cond (.t 18) .skip (.exit 0)) (qs (qs (.block 1 (qs (qr [qa 19 (mt 17), qa 20 (.indexA 8 (.t 15) (.t 17)), qa 21 (lm 8 20), qa 8 (.alloc 27 zU), qa 7 (mt 19), ⟨none, none, .store 8 (.t 8) (.t 21)⟩] [1, 2, 7, 8, 15, 16, 17]) (qs (qr [qa 22 (mt 1), qa 23 (mt 7), qa 24 (.indexA 8 (.t 22) (.t 23)), qa 25 (lm 8 24), qa 9 (.alloc 27 zU), ⟨none, none, .store 8 (.t 9) (.t 25)⟩] [1, 2, 8, 9, 15, 16, 17]) (qs (qr [qa 26 (mt 2), qa 27 (lm 8 8), qa 28 (lm 8 9), qa 29 (.call (.t 26) [.t 27, .t 28]), qa 30 (.not (.t 29))] [1, 2, 15, 16, 17, 30]) (.cond (.t 30) (qs (qr [qa 6 (.mov qf)] [6]) .ret) .skip))))) (qr [] [1, 2, 15, 16, 17])) (qr [qa 31 (.bin .add (.t 17) (qi 1)), qa 17 (mt 31)] [1, 2, 15, 16, 17])))))) (qr [] []))) (qs (qr [qa 6 (.mov qt)] [6]) .ret)))
theorem c47 : fnAt Proofs.Tryz.prog 47 [] = some (r47, s47) := by kernel_rfl

def r53 : RL := [(2, none)]
def s53 : SCode := qs (qr [qa 1 (.boxR 8 (.t 0)), qa 2 (.mov qf)] [1]) (qs (qs (qr [qa 7 (fa 3 1), qa 8 (lo 7), qa 9 (.bin .eql (.t 8) (qi 0))] [1, 9]) (.cond (.t 9) (qs (qr [qa 10 (fa 4 1), qa 11 (lo 10), qa 12 (.bin .neq (.t 11) (.c (.str []))), qa 13 (mt 12), qc 14 13 (fa 5 1), qc 15 13 (lo 14), qc 16 13 (.len (.t 15)), qc 17 13 (fa 6 1), qc 18 13 (lo 17), qc 19 13 (.len (.t 18)), qc 20 13 (.bin .add (.t 16) (.t 19)), qc 21 13 (.bin .gtr (.t 20) (qi 0)), qa 22 (.pick (.t 13) qt (.t 21))] [1, 22]) (.cond (.t 22) (qs (qr [qa 2 (.mov qf)] [2]) .ret) .skip)) (qs (qr [qa 23 (fa 3 1), qa 24 (lo 23), qa 25 (.call (.f 83) [.t 24]), qa 26 (.bin .eql (.t 25) (.c (.str []))), qa 27 (mt 26), qc 28 27 (fa 4 1), qc 29 27 (lo 28), qc 30 27 (.call (.f 84) [.t 29]), qc 31 27 (.not (.t 30)), qa 32 (.pick (.t 27) qt (.t 31)), qa 33 (mt 32), qc 34 33 (fa 5 1), qc 35 33 (lo 34), qc 36 33 (.call (.f 85) [.t 35]), qc 37 33 (.not (.t 36)), qa 38 (.pick (.t 33) qt (.t 37)), qa 39 (mt 38), qc 40 39 (fa 6 1), qc 41 39 (lo 40), qc 42 39 (.call (.f 85) [.t 41]), qc 43 39 (.not (.t 42)), qa 44 (.pick (.t 39) qt (.t 43))] [1, 44]) (.cond (.t 44) (qs (qr [qa 2 (.mov qf)] [2]) .ret) .skip)))) (qs (qr [qa 45 (.raw (.makeMap 129 none)), qa 3 (mt 45)] [1, 3]) (qs (qs (qr [qa 46 (fa 7 1), qa 47 (lo 46), qa 48 (.len (.t 47)), qa 49 (.mov (qi 0))] [1, 3, 47, 48, 49]) (qs (.block 0 (.loop (qs (qr [qa 50 (.bin .lss (.t 49) (.t 48))] [1, 3, 47, 48, 49, 50]) (qs (.cond (.t 50) .skip (.exit 0)) (qs (qs (.block 1 (qs (qr [qa 51 (.indexA 8 (.t 47) (.t 49)), qa 52 (lm 8 51), qa 5 (.alloc 27 zU), ⟨none, none, .store 8 (.t 5) (.t 52)⟩] [1, 3, 5, 47, 48, 49]) (qs (qr [qa 53 (fa 3 5), qa 54 (lo 53), qa 55 (fa 4 5), qa 56 (lo 55), qa 57 (.build [.int .i64 0, .str []] [(0, (1, .t 54)), (1, (1, .t 56))]), qa 6 (.alloc 131 [.int .i64 0, .str []]), ⟨none, none, .store 2 (.t 6) (.t 57)⟩] [1, 3, 5, 6, 47, 48, 49]) (qs (qs (qr [qa 58 (fa 3 1), qa 59 (lo 58), qa 60 (fa 3 5), qa 61 (lo 60), qa 62 (.call (.f 86) [.t 59, .t 61]), qa 63 (.not (.t 62)), qa 64 (mt 63), qc 65 64 (mt 3), qc 66 64 (lm 2 6), qc 67 64 (.raw (.lookup 129 (.tmp 65) (.tmp 66) false)), qa 68 (.pick (.t 64) qt (.t 67))] [1, 3, 6, 47, 48, 49, 68]) (.cond (.t 68) (qs (qr [qa 2 (.mov qf)] [2]) .ret) .skip)) (qr [qa 69 (mt 3), qa 70 (lm 2 6), ⟨none, none, .raw (.mapUpdate 129 (.tmp 69) (.tmp 70) (.const (.bool true)))⟩] [1, 3, 47, 48, 49]))))) (qr [] [1, 3, 47, 48, 49])) (qr [qa 71 (.bin .add (.t 49) (qi 1)), qa 49 (mt 71)] [1, 3, 47, 48, 49])))))) (qr [] [1]))) (qs (qr [qa 72 (fa 7 1), qa 73 (lo 72), qa 74 (.len (.t 73)), qa 75 (.bin .leq (.t 74) (qi 64)), qa 2 (mt 75)] [2]) .ret))))
theorem c53 : fnAt Proofs.Tryz.prog 53 [2000001] = some (r53, s53) := by kernel_rfl

def r56 : RL := [(2, none)]
def s56 : SCode := qs (qr [qa 1 (.boxR 8 (.t 0)), qa 2 (.mov qf)] [1]) (qs (qr [qa 8 (lm 8 1), qa 9 (.call (.f 30) [.t 8]), qa 3 (mt 9)] [1, 3]) (qs (qr [qa 10 (.raw (.makeMap 59 none)), qa 4 (mt 10)] [1, 3, 4]) (qs (qs (qr [qa 11 (mt 3), qa 12 (.len (.t 11)), qa 13 (.mov (qi 0))] [1, 3, 4, 11, 12, 13]) (qs (.block 0 (.loop (qs (qr [qa 14 (.bin .lss (.t 13) (.t 12))] [1, 3, 4, 11, 12, 13, 14]) (qs (.cond (.t 14) .skip (.exit 0)) (qs (qs (.block 1 (qs (qr [qa 15 (.indexA 3 (.t 11) (.t 13)), qa 16 (lm 3 15), qa 6 (.alloc 23 [.int .i64 0, .int .i64 0, .int .i64 0]), ⟨none, none, .store 3 (.t 6) (.t 16)⟩] [1, 3, 4, 6, 11, 12, 13]) (qr [qa 17 (mt 4), qa 18 (lm 3 6), ⟨none, none, .raw (.mapUpdate 59 (.tmp 17) (.tmp 18) (.const (.bool true)))⟩] [1, 3, 4, 11, 12, 13]))) (qr [] [1, 3, 4, 11, 12, 13])) (qr [qa 19 (.bin .add (.t 13) (qi 1)), qa 13 (mt 19)] [1, 3, 4, 11, 12, 13])))))) (qr [] [1, 3, 4]))) (qs (qr [qa 20 (mt 4), qa 21 (.build [.int .i64 0, .int .i64 0, .int .i64 0] []), qa 22 (.raw (.lookup 59 (.tmp 20) (.tmp 21) false)), qa 7 (mt 22)] [1, 3, 4, 7]) (qs (.drawL [qa 23 (mt 7), qa 24 (mt 23), qb 25 24 (mt 4), qb 26 24 (.raw (.call (.mk (.builtin .len) #[.tmp 25] #[59]))), qb 27 24 (.bin .eql (.t 26) (qi 1)), qa 28 (.pick (.t 24) (.t 27) qf), qa 29 (mt 28), qc 30 29 (mt 4), qc 32 29 (mt 3), qc 33 29 (.len (.t 32)), qc 31 29 (.raw (.call (.mk (.builtin .len) #[.tmp 30] #[59]))), qc 34 29 (.bin .eql (.t 31) (.t 33)), qc 35 29 (mt 34), qb 36 35 (fa 3 1), qb 37 35 (.loadF false 1 (.t 36)), qb 38 35 (.bin .eql (.t 37) (qi 0)), qb 39 35 (fa 0 1), qb 40 35 (.loadF true 3 (.t 39)), qb 41 35 (.build [.int .i64 0, .int .i64 0, .int .i64 0] []), qb 42 35 (.eqs false [1, 1, 1] (.t 40) (.t 41)), qb 43 35 (.eqb false (.t 38) (.t 42)), qc 44 29 (.pick (.t 35) (.t 43) qf), qa 45 (.pick (.t 29) qt (.t 44)), qa 2 (mt 45)] [2]) .ret)))))
theorem c56 : fnAt Proofs.Tryz.prog 56 [2000001] = some (r56, s56) := by kernel_rfl

def r68 : RL := [(2, none)]
def s68 : SCode := qs (qr [qa 2 (.mov qf)] [0]) (qs (qs (qr [qa 3 (mt 0), qa 4 (.lenS (.t 3)), qa 5 (.bin .lss (.t 4) (qi 1)), qa 6 (mt 5), qc 7 6 (mt 0), qc 8 6 (.lenS (.t 7)), qc 9 6 (.bin .gtr (.t 8) (qi 16)), qa 10 (.pick (.t 6) qt (.t 9)), qa 11 (mt 10), qc 12 11 (mt 0), qc 13 11 (.index (.t 12) (qi 0)), qc 14 11 (.bin .lss (.t 13) (.c (.int .u8 97))), qa 15 (.pick (.t 11) qt (.t 14)), qa 16 (mt 15), qc 17 16 (mt 0), qc 18 16 (.index (.t 17) (qi 0)), qc 19 16 (.bin .gtr (.t 18) (.c (.int .u8 122))), qa 20 (.pick (.t 16) qt (.t 19))] [0, 20]) (.cond (.t 20) (qs (qr [qa 2 (.mov qf)] [2]) .ret) .skip)) (qs (qr [qa 21 (mt 0), qa 22 (.call (.f 132) [.t 21, .c (.str [97, 98, 99, 100, 101, 102, 103, 104, 105, 106, 107, 108, 109, 110, 111, 112, 113, 114, 115, 116, 117, 118, 119, 120, 121, 122, 48, 49, 50, 51, 52, 53, 54, 55, 56, 57, 45])]), qa 23 (.bin .eql (.t 22) (.c (.str []))), qa 2 (mt 23)] [2]) .ret))
theorem c68 : fnAt Proofs.Tryz.prog 68 [] = some (r68, s68) := by kernel_rfl

def r83 : RL := [(2, none)]
def s83 : SCode := qs (qr [qa 2 (.mov (.c (.str [])))] [0]) (qs (qs (qr [qa 3 (mt 0), qa 4 (.bin .lss (.t 3) (qi 0)), qa 5 (mt 4), qc 6 5 (mt 0), qc 7 5 (.bin .geq (.t 6) (qi 8)), qa 8 (.pick (.t 5) qt (.t 7))] [0, 8]) (.cond (.t 8) (qs (qr [qa 2 (.mov (.c (.str [])))] [2]) .ret) .skip)) (qs (qr [qa 9 (mt 0), qa 10 (.indexP 8 1 (.g 1) (.t 9)), qa 11 (lo 10), qa 2 (mt 11)] [2]) .ret))
theorem c83 : fnAt Proofs.Tryz.prog 83 [] = some (r83, s83) := by kernel_rfl

def r86 : RL := [(4, none)]
def s86 : SCode := qs (qr [qa 4 (.mov qf)] [0, 1]) (qs (qr [qa 5 (mt 0), qa 6 (.bin .geq (.t 5) (qi 0)), qa 7 (mt 6), qb 8 7 (mt 0), qb 9 7 (.bin .lss (.t 8) (qi 8)), qa 10 (.pick (.t 7) (.t 9) qf), qa 11 (mt 10), qb 12 11 (mt 0), qb 13 11 (.indexP 8 1 (.g 2) (.t 12)), qb 14 11 (lo 13), qb 15 11 (mt 1), qb 16 11 (.call (.f 159) [.t 14, .t 15]), qa 17 (.pick (.t 11) (.t 16) qf), qa 4 (mt 17)] [4]) .ret)
theorem c86 : fnAt Proofs.Tryz.prog 86 [] = some (r86, s86) := by kernel_rfl

def r107 : RL := [(2, some (true, 25))]
def s107 : SCode := qs (qr [qa 1 (.boxR 25 (.t 0)), qa 2 (.alloc 34 zItm)] [1, 2]) (qs (qr [qa 3 (fa 3 1), qa 4 (lo 3), qa 5 (fa 5 1), qa 6 (lm 8 5), qa 7 (.build zItm [(3, (1, .t 4)), (5, (8, .t 6))]), ⟨none, none, .store 25 (.t 2) (.t 7)⟩] [2]) .ret)
theorem c107 : fnAt Proofs.Tryz.prog 107 [2000001] = some (r107, s107) := by kernel_rfl

def r110 : RL := [(2, none)]
def s110 : SCode := qs (qr [qa 1 (.boxR 8 (.t 0)), qa 2 (.mov qf)] [1]) (qs (qr [qa 6 (lm 8 1), qa 7 (.call (.f 178) [.t 6]), qa 5 (mt 7), qa 8 (.extract 0 (.t 5)), qa 9 (.extract 1 (.t 5)), qa 3 (mt 8), qa 4 (mt 9)] [1, 4]) (qs (qr [qa 10 (lm 8 1), qa 11 (.call (.f 179) [.t 10]), qa 12 (mt 11), qb 13 12 (fa 3 1), qb 14 12 (lo 13), qb 15 12 (.bin .neq (.t 14) (qi 0)), qa 16 (.pick (.t 12) (.t 15) qf), qa 17 (mt 16), qb 18 17 (mt 4), qb 19 17 (.bin .eql (.t 18) (qi 0)), qa 20 (.pick (.t 17) (.t 19) qf), qa 2 (mt 20)] [2]) .ret))
theorem c110 : fnAt Proofs.Tryz.prog 110 [2000001] = some (r110, s110) := by kernel_rfl

def r113 : RL := [(2, some (true, 25))]
def s113 : SCode := qs (qr [qa 1 (.boxR 25 (.t 0)), qa 2 (.alloc 34 zItm)] [1, 2]) (qs (qr [qa 3 (fa 13 1), qa 4 (lo 3), qa 5 (fa 14 1), qa 6 (lo 5), qa 7 (fa 4 1), qa 8 (lo 7), qa 9 (.build zItm [(13, (1, .t 4)), (14, (1, .t 6)), (4, (1, .t 8))]), ⟨none, none, .store 25 (.t 2) (.t 9)⟩] [2]) .ret)
theorem c113 : fnAt Proofs.Tryz.prog 113 [2000001] = some (r113, s113) := by kernel_rfl

def r116 : RL := [(2, none)]
def s116 : SCode := qs (qr [qa 1 (.boxR 25 (.t 0)), qa 2 (.mov qf)] [1]) (qs (qr [qa 3 (fa 4 1), qa 4 (lo 3), qa 5 (.call (.f 127) [.t 4, .c (.int .i64 0), .c (.int .i64 256)]), qa 2 (mt 5)] [2]) .ret)
theorem c116 : fnAt Proofs.Tryz.prog 116 [2000001] = some (r116, s116) := by kernel_rfl

def r119 : RL := [(2, some (true, 25))]
def s119 : SCode := qs (qr [qa 1 (.boxR 25 (.t 0)), qa 2 (.alloc 34 zItm)] [1, 2]) (qs (qr [qa 3 (fa 14 1), qa 4 (lo 3), qa 5 (.build zItm [(14, (1, .t 4))]), ⟨none, none, .store 25 (.t 2) (.t 5)⟩] [2]) .ret)
theorem c119 : fnAt Proofs.Tryz.prog 119 [2000001] = some (r119, s119) := by kernel_rfl

def r122 : RL := [(2, none)]
def s122 : SCode := qs (qr [qa 1 (.boxR 25 (.t 0)), qa 2 (.mov qf)] [1]) (qs (qr [qa 3 (fa 15 1), qa 4 (lo 3), qa 5 (.call (.f 84) [.t 4]), qa 2 (mt 5)] [2]) .ret)
theorem c122 : fnAt Proofs.Tryz.prog 122 [2000001] = some (r122, s122) := by kernel_rfl

def r125 : RL := [(2, some (true, 25))]
def s125 : SCode := qs (qr [qa 1 (.boxR 25 (.t 0)), qa 2 (.alloc 34 zItm)] [1, 2]) (qs (qr [qa 3 (fa 23 1), qa 4 (lo 3), qa 5 (fa 22 1), qa 6 (lo 5), qa 7 (.build zItm [(23, (1, .t 4)), (22, (1, .t 6))]), ⟨none, none, .store 25 (.t 2) (.t 7)⟩] [2]) .ret)
theorem c125 : fnAt Proofs.Tryz.prog 125 [2000001] = some (r125, s125) := by kernel_rfl

def r128 : RL := [(2, some (true, 25))]
def s128 : SCode := qs (qr [qa 1 (.boxR 25 (.t 0)), qa 2 (.alloc 34 zItm)] [1, 2]) (qs (qr [qa 3 (fa 20 1), qa 4 (lo 3), qa 5 (fa 21 1), qa 6 (lo 5), qa 7 (fa 24 1), qa 8 (lo 7), qa 9 (.build zItm [(20, (1, .t 4)), (21, (1, .t 6)), (24, (1, .t 8))]), ⟨none, none, .store 25 (.t 2) (.t 9)⟩] [2]) .ret)
theorem c128 : fnAt Proofs.Tryz.prog 128 [2000001] = some (r128, s128) := by kernel_rfl

def r131 : RL := [(2, none)]
def s131 : SCode := qs (qr [qa 1 (.boxR 2 (.t 0)), qa 2 (.mov qf)] [1]) (qs (qr [qa 3 (fa 0 1), qa 4 (lo 3), qa 5 (.bin .eql (.t 4) (qi 0)), qa 6 (mt 5), qb 7 6 (fa 1 1), qb 8 6 (lo 7), qb 9 6 (.bin .eql (.t 8) (.c (.str []))), qa 10 (.pick (.t 6) (.t 9) qf), qa 2 (mt 10)] [2]) .ret)
theorem c131 : fnAt Proofs.Tryz.prog 131 [2000001] = some (r131, s131) := by kernel_rfl

def r134 : RL := [(4, none)]
def s134 : SCode := qs (qr [qa 4 (.mov qf)] [0, 1]) (qs (qs (qr [qa 6 (mt 0), qa 7 (.len (.t 6)), qa 8 (mt 1), qa 9 (.len (.t 8)), qa 10 (.bin .neq (.t 7) (.t 9))] [0, 1, 10]) (.cond (.t 10) (qs (qr [qa 4 (.mov qf)] [4]) .ret) .skip)) (qs (qs (qr [qa 11 (mt 0), qa 12 (.len (.t 11)), qa 13 (.mov (qi 0))] [0, 1, 12, 13]) (qs (.block 0 (.loop (qs (qr [qa 14 (.bin .lss (.t 13) (.t 12))] [0, 1, 12, 13, 14]) (qs (.cond (.t 14) .skip (.exit 0)) (qs (qs (.block 1 (qs (qr [qa 15 (mt 13), qa 5 (mt 15)] [0, 1, 5, 12, 13]) (qs (.draw [qa 16 (mt 0), qa 17 (mt 5), qa 18 (.indexA 1 (.t 16) (.t 17)), qa 19 (lo 18), qa 20 (mt 1), qa 21 (mt 5), qa 22 (.indexA 1 (.t 20) (.t 21)), qa 23 (lo 22), qa 24 (.bin .neq (.t 19) (.t 23))] [0, 1, 12, 13, 24]) (.cond (.t 24) (qs (qr [qa 4 (.mov qf)] [4]) .ret) .skip)))) (qr [] [0, 1, 12, 13])) (qr [qa 25 (.bin .add (.t 13) (qi 1)), qa 13 (mt 25)] [0, 1, 12, 13])))))) (qr [] []))) (qs (qr [qa 4 (.mov qt)] [4]) .ret)))
theorem c134 : fnAt Proofs.Tryz.prog 134 [] = some (r134, s134) := by kernel_rfl

def r155 : RL := [(2, none), (3, none)]
def s155 : SCode := qs (qr [qa 2 (.mov (.c (.str []))), qa 3 (.mov (.c (.str [])))] [0]) (qs (qr [qa 5 (mt 0), qa 6 (.call (.f 203) [.t 5, .f 204]), qa 4 (mt 6)] [0, 4]) (qs (qs (qr [qa 7 (mt 4), qa 8 (.bin .lss (.t 7) (qi 0))] [0, 4, 8]) (.cond (.t 8) (qs (qr [qa 9 (mt 0), qa 2 (mt 9), qa 3 (.mov (.c (.str [])))] [2, 3]) .ret) .skip)) (qs (.drawL [qa 10 (mt 0), qa 11 (mt 4), qa 12 (.sliceS (.t 10) none (some (.t 11))), qa 13 (mt 0), qa 14 (mt 4), qa 15 (.sliceS (.t 13) (some (.t 14)) none), qa 2 (mt 12), qa 3 (mt 15)] [2, 3]) .ret)))
theorem c155 : fnAt Proofs.Tryz.prog 155 [] = some (r155, s155) := by kernel_rfl

def r158 : RL := [(2, none)]
def s158 : SCode := qs (qr [qa 2 (.mov qf)] [0]) (qs (qr [qa 3 (mt 0), qa 4 (.len (.t 3)), qa 5 (.bin .leq (.t 4) (qi 256)), qa 6 (mt 5), qb 7 6 (mt 0), qb 8 6 (.call (.f 205) [.t 7, .f 206]), qb 9 6 (.not (.t 8)), qa 10 (.pick (.t 6) (.t 9) qf), qa 2 (mt 10)] [2]) .ret)
theorem c158 : fnAt Proofs.Tryz.prog 158 [] = some (r158, s158) := by kernel_rfl

def r179 : RL := [(2, none)]
def s179 : SCode := qs (qr [qa 1 (.boxR 8 (.t 0)), qa 2 (.mov qf)] [1]) (qs (qr [qa 3 (lm 8 1), qa 4 (.call (.f 34) [.t 3]), qa 5 (mt 4), qb 6 5 (lm 8 1), qb 7 5 (.call (.f 48) [.t 6, .f 214]), qa 8 (.pick (.t 5) (.t 7) qf), qa 2 (mt 8)] [2]) .ret)
theorem c179 : fnAt Proofs.Tryz.prog 179 [2000001] = some (r179, s179) := by kernel_rfl

def r206 : RL := [(2, none)]
def s206 : SCode := qs (qr [qa 2 (.mov qf)] [0]) (qs (qr [qa 3 (mt 0), qa 4 (.call (.f 207) [.t 3]), qa 5 (.not (.t 4)), qa 2 (mt 5)] [2]) .ret)
theorem c206 : fnAt Proofs.Tryz.prog 206 [] = some (r206, s206) := by kernel_rfl

def r212 : RL := [(2, none)]
def s212 : SCode := qs (qr [qa 1 (.boxR 8 (.t 0)), qa 2 (.mov (.c .nil))] [1]) (qs (qs (qr [qa 5 (lm 8 1), qa 6 (.call (.f 243) [.t 5]), qa 7 (.call (.f 34) [.t 6]), qa 8 (.not (.t 7))] [1, 8]) (.cond (.t 8) (qs (qr [qa 2 (.mov (.c .nil))] [2]) .ret) .skip)) (qs (qr [qa 3 (.alloc 29 [.nil])] [1, 3]) (qs (qr [qa 4 (.alloc 230 [.sc .nilFunc])] [1, 3, 4]) (qs (qr [qa 9 (.mkfun (.func 244) [] [.t 3, .t 4]), ⟨none, none, .store 1 (.t 4) (.t 9)⟩] [1, 3, 4]) (qs (qr [qa 10 (lo 4), qa 11 (lm 8 1), qa 12 (.call (.t 10) [.t 11, .c (.int .i64 0)])] [3]) (qs (qr [qa 13 (lo 3), qa 2 (mt 13)] [2]) .ret))))))
theorem c212 : fnAt Proofs.Tryz.prog 212 [2000001] = some (r212, s212) := by kernel_rfl

def r215 : RL := [(2, none)]
def s215 : SCode := qs (qr [qa 1 (.boxR 4 (.t 0)), qa 2 (.mov qf)] [1]) (qs (qr [qa 3 (fa 1 1), qa 4 (lm 3 3), qa 5 (.build [.int .i64 0, .int .i64 0, .int .i64 0] []), qa 6 (.eqs true [1, 1, 1] (.t 4) (.t 5)), qa 2 (mt 6)] [2]) .ret)
theorem c215 : fnAt Proofs.Tryz.prog 215 [2000001] = some (r215, s215) := by kernel_rfl

def r233 : RL := [(4, none)]
def s233 : SCode := qs (qr [qa 4 (.mov qf)] [0, 1]) (qs (qr [qa 5 (mt 0), qa 6 (mt 1), qa 7 (.call (.f 258) [.t 5, .t 6]), qa 8 (.bin .geq (.t 7) (qi 0)), qa 4 (mt 8)] [4]) .ret)
theorem c233 : fnAt Proofs.Tryz.prog 233 [] = some (r233, s233) := by kernel_rfl

def r245 : RL := [(4, none)]
def s245 : SCode := qs (qr [qa 2 (.boxR 8 (.t 0)), qa 4 (.mov (.c (.str [])))] [1, 2]) (qs (qs (qr [qa 6 (lm 8 2), qa 7 (mt 1), qa 8 (.call (.f 259) [.t 6, .t 7]), qa 9 (.not (.t 8))] [1, 2, 9]) (.cond (.t 9) (qs (qr [qa 4 (.mov (.c (.str [])))] [4]) .ret) .skip)) (qs (.drawL [qa 10 (mt 1), qa 12 (fa 3 2), qa 13 (.loadF false 1 (.t 12)), qa 11 (.call (.f 260) [.c (.str [32, 32]), .t 10]), qa 14 (.call (.f 83) [.t 13]), qa 15 (.bin .add (.t 11) (.t 14)), qa 5 (mt 15)] [2, 5]) (qs (qs (qr [qa 16 (fa 3 2), qa 17 (lo 16), qa 18 (.bin .neq (.t 17) (qi 0))] [2, 5, 18]) (.cond (.t 18) (qr [qa 19 (mt 5), qa 20 (fa 4 2), qa 21 (lo 20), qa 22 (.bin .add (.c (.str [32])) (.t 21)), qa 23 (.bin .add (.t 19) (.t 22)), qa 5 (mt 23)] [2, 5]) .skip)) (qs (qs (qr [qa 24 (fa 5 2), qa 25 (lo 24), qa 26 (.len (.t 25)), qa 27 (.bin .gtr (.t 26) (qi 0))] [2, 5, 27]) (.cond (.t 27) (qr [qa 28 (mt 5), qa 29 (.bin .add (.t 28) (.c (.str [58]))), qa 30 (fa 5 2), qa 31 (lo 30), qa 32 (.call (.f 261) [.t 29, .t 31]), qa 5 (mt 32)] [2, 5]) .skip)) (qs (qs (qr [qa 33 (fa 6 2), qa 34 (lo 33), qa 35 (.len (.t 34)), qa 36 (.bin .gtr (.t 35) (qi 0))] [2, 5, 36]) (.cond (.t 36) (qr [qa 37 (mt 5), qa 38 (.bin .add (.t 37) (.c (.str [32, 124]))), qa 39 (fa 6 2), qa 40 (lo 39), qa 41 (.call (.f 261) [.t 38, .t 40]), qa 5 (mt 41)] [5]) .skip)) (qs (qr [qa 42 (mt 5), qa 4 (mt 42)] [4]) .ret))))))
theorem c245 : fnAt Proofs.Tryz.prog 245 [2000002] = some (r245, s245) := by kernel_rfl

def r302 : RL := [(2, none)]
def s302 : SCode := qs (qr [qa 1 (.boxR 25 (.t 0)), qa 2 (.mov qf)] [1]) (qs (qr [qa 3 (lm 25 1), qa 4 (.call (.f 130) [.t 3, .c (.int .i64 (-1))]), qa 5 (mt 4), qb 6 5 (fa 22 1), qb 7 5 (lo 6), qb 8 5 (.call (.f 127) [.t 7, .c (.int .i64 0), .c (.int .i64 1048576)]), qa 9 (.pick (.t 5) (.t 8) qf), qa 2 (mt 9)] [2]) .ret)
theorem c302 : fnAt Proofs.Tryz.prog 302 [2000001] = some (r302, s302) := by kernel_rfl

end Go.Av
end

section
namespace Go.Av
open Go Go.RowKit Go.Proofs
set_option linter.unusedSimpArgs false
set_option linter.unusedVariables false

def inR (n lo hi : Int) : Bool := decide (lo ≤ n) && decide (n ≤ hi)
def nests (p k : Int) : Bool :=
  if p = 0 then decide (k = 1) || decide (k = 2) else if p = 1 then decide (k = 2) else if p = 2 ∨ p = 3 then decide (k = 3) || decide (k = 4) || decide (k = 7) else if p = 4 then decide (k = 5) else if p = 5 then decide (k = 6) else false

section
variable (G : Glob)

theorem f127 (n lo hi : Int) : Pure G Tryz.prog 127 [.int .i64 n, .int .i64 lo, .int .i64 hi] (.bool (inR n lo hi)) := by
  refine Pure.w c127 fun R hR => ?_
  unfold s127 r127
  (repeat' (first | (with_reducible (refine gd_case (fun h => ?_) (fun h => ?_)) <;> (try simp only [Da, Db, Dc, Dw, De, Df, Dg, Dh] at h)) | simp -dsimp -implicitDefEqProofs only [EVz, seval, ↓reduceIte, reduceCtorEq, EV6, EV7] | fail))
  (all_goals (((refine RET.eq hR ?_; (refine congrArg AV.bool (Bool.eq_iff_iff.2 ?_); simp only [inR, EVB] at *; omega)))))

end
end Go.Av
end

section
namespace Go.Av
open Go Go.RowKit Go.Proofs
set_option linter.unusedSimpArgs false
set_option linter.unusedVariables false

def iz : Itm := ⟨0, [], [], 0, 0, ⟨⟨0, 0, 0⟩, 0, [], [], [], []⟩, [], [], [], [], ⟨0, 0, []⟩, 0, 0, 0, [], []⟩
section
variable (G : Glob)

theorem f41 (k : Int) : Pure G Tryz.prog 41 [.int .i64 k] (.bool (inR k 0 6)) := by
  refine Pure.w c41 fun R hR => ?_
  unfold s41 r41
  (repeat' (first | (with_reducible (refine gd_case (fun h => ?_) (fun h => ?_)) <;> (try simp only [Da, Db, Dc, Dw, De, Df, Dg, Dh] at h)) | simp -dsimp -implicitDefEqProofs only [EVz, seval, ↓reduceIte, reduceCtorEq, EV6, EV7] | fail))
  (all_goals (((refine RET.eq hR ?_; (refine congrArg AV.bool (Bool.eq_iff_iff.2 ?_); simp only [inR, EVB] at *; omega)))))
theorem f131 (k : Int) (l : List UInt8) : Pure G Tryz.prog 131 [.agg [.int .i64 k, .str l]] (.bool (decide (k = 0) && decide (l = []))) := by
  refine Pure.w c131 fun R hR => ?_
  unfold s131 r131
  (repeat' (first | (with_reducible (refine gd_case (fun h => ?_) (fun h => ?_)) <;> (try simp only [Da, Db, Dc, Dw, De, Df, Dg, Dh] at h)) | simp -dsimp -implicitDefEqProofs only [EVz, seval, ↓reduceIte, reduceCtorEq, EV6, EV7] | fail))
  (all_goals (first | (refine RET.eq hR ?_; (refine congrArg AV.bool (Bool.eq_iff_iff.2 ?_); simp only [EVB] at *; omega)) | (refine RET.eq hR ?_; ((simp_all []; done)))))
theorem f109 (k : Int) : Pure G Tryz.prog 109 [.int .i64 k] (.bool (inR k 0 3)) := by
  refine Pure.w c109 fun R hR => ?_
  unfold s109 r109
  (repeat' (first | (with_reducible refine CALL_pure (f127 G _ _ _) ?_) | simp -dsimp -implicitDefEqProofs only [EVz, seval, ↓reduceIte, reduceCtorEq, EV6, EV7] | fail))
  (all_goals ((exact RET.eq hR rfl)))
theorem f116 (x : Itm) : Pure G Tryz.prog 116 [.agg x.cs] (.bool (inR x.nth 0 256)) := by
  refine Pure.w c116 fun R hR => ?_
  unfold s116 r116
  (repeat' (first | (with_reducible refine CALL_pure (f127 G _ _ _) ?_) | simp -dsimp -implicitDefEqProofs only [EVz, seval, ↓reduceIte, reduceCtorEq, EV6, EV7] | fail))
  (all_goals ((exact RET.eq hR rfl)))
theorem f130 (x : Itm) (n : Int) : Pure G Tryz.prog 130 [.agg x.cs, .int .i64 n] (.bool (inR x.act 1 1048576 && inR x.item n 31)) := by
  refine Pure.w c130 fun R hR => ?_
  unfold s130 r130
  (repeat' (first | (with_reducible (refine gd_case (fun h => ?_) (fun h => ?_)) <;> (try simp only [Da, Db, Dc, Dw, De, Df, Dg, Dh] at h)) | (with_reducible refine CALL_pure (f127 G _ _ _) ?_) | simp -dsimp -implicitDefEqProofs only [EVz, seval, ↓reduceIte, reduceCtorEq, EV6, EV7] | fail))
  (all_goals (((refine RET.eq hR ?_; ((simp_all []; done))))))
theorem f107 (x : Itm) : Pure G Tryz.prog 107 [.agg x.cs] (.agg (Itm.cs { iz with wh := x.wh, unit := x.unit })) := by
  refine Pure.w c107 fun R hR => ?_
  unfold s107 r107
  (repeat' (first | simp -dsimp -implicitDefEqProofs only [EVz, seval, ↓reduceIte, reduceCtorEq, EV6, EV7] | (with_reducible intro blk hblk; (try (have hnx := hblk; simp only [EVK] at hnx; (have hne := hnx)))) | fail))
  (all_goals (((refine hR _ _ (Or.inr ?_); simp [*, AVleL, AVle1, Itm.cs_eq, U.cs_eq, iz]; done))))
theorem f111 (x : Itm) : Pure G Tryz.prog 111 [.agg x.cs] (.agg (Itm.cs iz)) := by
  refine Pure.w c111 fun R hR => ?_
  unfold s111 r111
  (repeat' (first | simp -dsimp -implicitDefEqProofs only [EVz, seval, ↓reduceIte, reduceCtorEq, EV6, EV7] | (with_reducible intro blk hblk; (try (have hnx := hblk; simp only [EVK] at hnx; (have hne := hnx)))) | fail))
  (all_goals (((refine hR _ _ (Or.inr ?_); simp [*, AVleL, AVle1, Itm.cs_eq, U.cs_eq, iz]; done))))
theorem f112 (x : Itm) : Pure G Tryz.prog 112 [.agg x.cs] (.bool true) := by
  refine Pure.w c112 fun R hR => ?_
  unfold s112 r112
  (repeat' (simp -dsimp -implicitDefEqProofs only [EVz, seval, ↓reduceIte, reduceCtorEq, EV6, EV7]))
  (all_goals ((exact RET.eq hR rfl)))
theorem f113 (x : Itm) : Pure G Tryz.prog 113 [.agg x.cs] (.agg (Itm.cs { iz with old := x.old, new := x.new, nth := x.nth })) := by
  refine Pure.w c113 fun R hR => ?_
  unfold s113 r113
  (repeat' (first | simp -dsimp -implicitDefEqProofs only [EVz, seval, ↓reduceIte, reduceCtorEq, EV6, EV7] | (with_reducible intro blk hblk; (try (have hnx := hblk; simp only [EVK] at hnx; (have hne := hnx)))) | fail))
  (all_goals (((refine hR _ _ (Or.inr ?_); simp [*, AVleL, AVle1, Itm.cs_eq, U.cs_eq, iz]; done))))
theorem f117 (x : Itm) : Pure G Tryz.prog 117 [.agg x.cs] (.agg (Itm.cs { iz with old := x.old, new := x.new, nth := x.nth })) := by
  refine Pure.w c117 fun R hR => ?_
  unfold s117 r117
  (repeat' (first | simp -dsimp -implicitDefEqProofs only [EVz, seval, ↓reduceIte, reduceCtorEq, EV6, EV7] | (with_reducible intro blk hblk; (try (have hnx := hblk; simp only [EVK] at hnx; (have hne := hnx)))) | fail))
  (all_goals (((refine hR _ _ (Or.inr ?_); simp [*, AVleL, AVle1, Itm.cs_eq, U.cs_eq, iz]; done))))
theorem f119 (x : Itm) : Pure G Tryz.prog 119 [.agg x.cs] (.agg (Itm.cs { iz with new := x.new })) := by
  refine Pure.w c119 fun R hR => ?_
  unfold s119 r119
  (repeat' (first | simp -dsimp -implicitDefEqProofs only [EVz, seval, ↓reduceIte, reduceCtorEq, EV6, EV7] | (with_reducible intro blk hblk; (try (have hnx := hblk; simp only [EVK] at hnx; (have hne := hnx)))) | fail))
  (all_goals (((refine hR _ _ (Or.inr ?_); simp [*, AVleL, AVle1, Itm.cs_eq, U.cs_eq, iz]; done))))
theorem f121 (x : Itm) : Pure G Tryz.prog 121 [.agg x.cs] (.agg (Itm.cs { iz with label := x.label })) := by
  refine Pure.w c121 fun R hR => ?_
  unfold s121 r121
  (repeat' (first | simp -dsimp -implicitDefEqProofs only [EVz, seval, ↓reduceIte, reduceCtorEq, EV6, EV7] | (with_reducible intro blk hblk; (try (have hnx := hblk; simp only [EVK] at hnx; (have hne := hnx)))) | fail))
  (all_goals (((refine hR _ _ (Or.inr ?_); simp [*, AVleL, AVle1, Itm.cs_eq, U.cs_eq, iz]; done))))
theorem f123 (x : Itm) : Pure G Tryz.prog 123 [.agg x.cs] (.agg (Itm.cs { iz with to_ := x.to_, wh := x.wh })) := by
  refine Pure.w c123 fun R hR => ?_
  unfold s123 r123
  (repeat' (first | simp -dsimp -implicitDefEqProofs only [EVz, seval, ↓reduceIte, reduceCtorEq, EV6, EV7] | (with_reducible intro blk hblk; (try (have hnx := hblk; simp only [EVK] at hnx; (have hne := hnx)))) | fail))
  (all_goals (((refine hR _ _ (Or.inr ?_); simp [*, AVleL, AVle1, Itm.cs_eq, U.cs_eq, iz]; done))))
theorem f125 (x : Itm) : Pure G Tryz.prog 125 [.agg x.cs] (.agg (Itm.cs { iz with event := x.event, day := x.day })) := by
  refine Pure.w c125 fun R hR => ?_
  unfold s125 r125
  (repeat' (first | simp -dsimp -implicitDefEqProofs only [EVz, seval, ↓reduceIte, reduceCtorEq, EV6, EV7] | (with_reducible intro blk hblk; (try (have hnx := hblk; simp only [EVK] at hnx; (have hne := hnx)))) | fail))
  (all_goals (((refine hR _ _ (Or.inr ?_); simp [*, AVleL, AVle1, Itm.cs_eq, U.cs_eq, iz]; done))))
theorem f128 (x : Itm) : Pure G Tryz.prog 128 [.agg x.cs] (.agg (Itm.cs { iz with act := x.act, item := x.item, by_ := x.by_ })) := by
  refine Pure.w c128 fun R hR => ?_
  unfold s128 r128
  (repeat' (first | simp -dsimp -implicitDefEqProofs only [EVz, seval, ↓reduceIte, reduceCtorEq, EV6, EV7] | (with_reducible intro blk hblk; (try (have hnx := hblk; simp only [EVK] at hnx; (have hne := hnx)))) | fail))
  (all_goals (((refine hR _ _ (Or.inr ?_); simp [*, AVleL, AVle1, Itm.cs_eq, U.cs_eq, iz]; done))))
theorem f301 (x : Itm) : Pure G Tryz.prog 301 [.agg x.cs] (.agg (Itm.cs { iz with act := x.act, item := x.item, day := x.day })) := by
  refine Pure.w c301 fun R hR => ?_
  unfold s301 r301
  (repeat' (first | simp -dsimp -implicitDefEqProofs only [EVz, seval, ↓reduceIte, reduceCtorEq, EV6, EV7] | (with_reducible intro blk hblk; (try (have hnx := hblk; simp only [EVK] at hnx; (have hne := hnx)))) | fail))
  (all_goals (((refine hR _ _ (Or.inr ?_); simp [*, AVleL, AVle1, Itm.cs_eq, U.cs_eq, iz]; done))))
theorem f302 (x : Itm) : Pure G Tryz.prog 302 [.agg x.cs] (.bool (inR x.act 1 1048576 && inR x.item (-1) 31 && inR x.day 0 1048576)) := by
  refine Pure.w c302 fun R hR => ?_
  unfold s302 r302
  (repeat' (first | (with_reducible (refine gd_case (fun h => ?_) (fun h => ?_)) <;> (try simp only [Da, Db, Dc, Dw, De, Df, Dg, Dh] at h)) | (with_reducible refine CALL_pure (f130 G _ _) ?_) | (with_reducible refine CALL_pure (f127 G _ _ _) ?_) | simp -dsimp -implicitDefEqProofs only [EVz, seval, ↓reduceIte, reduceCtorEq, EV6, EV7] | fail))
  (all_goals (((refine RET.eq hR ?_; ((simp_all []; done))))))
end
end Go.Av
end

section
namespace Go.Av
open Go Go.RowKit Go.Proofs
set_option linter.unusedSimpArgs false
set_option linter.unusedVariables false

def okCh (c : UInt8) : Bool := decide ((33 : Int) ≤ c.toNat) && decide ((c.toNat : Int) ≤ 126)
def wordOk (s : List UInt8) : Bool := decide ((1 : Int) ≤ s.length) && (decide ((s.length : Int) ≤ 24) && s.all okCh)

section
variable (G : Glob)

end
end Go.Av
end
