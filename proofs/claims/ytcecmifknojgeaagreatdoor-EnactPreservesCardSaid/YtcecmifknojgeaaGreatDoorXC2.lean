/-
  THE TRANSLATED CODE. Printed by mkcode2.py.
-/
import Derived.Test.YtcecmifknojgeaaGreatDoorXDattoXCS
import Derived.Test.YtcecmifknojgeaaGreatDoorXAv25toXAv26
import Derived.Test.YtcecmifknojgeaaGreatDoorProg
namespace Go.Av
open Go

def r34 : RL := [(2, none)]
def s34 : SCode := qs (qr [qa 1 (.boxR 8 (.t 0)), qa 2 (.mov qf)] [1]) (qs (qr [qa 3 (lm 8 1), qa 4 (.call (.f 48) [.t 3, .f 53]), qa 5 (mt 4), qb 6 5 (lm 8 1), qb 7 5 (.call (.f 54) [.t 6]), qb 8 5 (.bin .leq (.t 7) (qi 8)), qa 9 (.pick (.t 5) (.t 8) qf), qa 10 (mt 9), qb 11 10 (lm 8 1), qb 12 10 (.call (.f 55) [.t 11]), qb 13 10 (.bin .leq (.t 12) (qi 1024)), qa 14 (.pick (.t 10) (.t 13) qf), qa 15 (mt 14), qb 16 15 (lm 8 1), qb 17 15 (.call (.f 56) [.t 16]), qa 18 (.pick (.t 15) (.t 17) qf), qa 2 (mt 18)] [2]) .ret)
theorem c34 : fnAt Proofs.Tryz.prog 34 [2000001] = some (r34, s34) := by kernel_rfl

def r46 : RL := [(4, none)]
def s46 : SCode := qs (qr [qa 4 (.mov qf)] [0, 1]) (qs (qs (qr [qa 6 (mt 0), qa 7 (.len (.t 6)), qa 8 (mt 1), qa 9 (.len (.t 8)), qa 10 (.bin .neq (.t 7) (.t 9))] [0, 1, 10]) (.cond (.t 10) (qs (qr [qa 4 (.mov qf)] [4]) .ret) .skip)) (qs (qs (qr [qa 11 (mt 0), qa 12 (.len (.t 11)), qa 13 (.mov (qi 0))] [0, 1, 12, 13]) (qs (.block 0 (.loop (qs (qr [qa 14 (.bin .lss (.t 13) (.t 12))] [0, 1, 12, 13, 14]) (qs (.cond (.t 14) .skip (.exit 0)) (qs (qs (.block 1 (qs (qr [qa 15 (mt 13), qa 5 (mt 15)] [0, 1, 5, 12, 13]) (qs (.draw [qa 16 (mt 0), qa 17 (mt 5), qa 18 (.indexA 4 (.t 16) (.t 17)), qa 19 (lm 4 18), qa 20 (mt 1), qa 21 (mt 5), qa 22 (.indexA 4 (.t 20) (.t 21)), qa 23 (lm 4 22), qa 24 (.eqs true [2, 1, 1, 1] (.t 19) (.t 23))] [0, 1, 12, 13, 24]) (.cond (.t 24) (qs (qr [qa 4 (.mov qf)] [4]) .ret) .skip)))) (qr [] [0, 1, 12, 13])) (qr [qa 25 (.bin .add (.t 13) (qi 1)), qa 13 (mt 25)] [0, 1, 12, 13])))))) (qr [] []))) (qs (qr [qa 4 (.mov qt)] [4]) .ret)))
theorem c46 : fnAt Proofs.Tryz.prog 46 [] = some (r46, s46) := by kernel_rfl

def r49 : RL := [(3, none)]
def s49 : SCode := qs (qr [qa 2 (.boxR 8 (.t 0)), qa 3 (.mov qf)] [1, 2]) (qs (qr [qa 4 (lo 1), qa 5 (fa 0 2), qa 6 (lm 3 5), qa 7 (.buildS 23 3 1 [.int .i64 0, .int .i64 0, .int .i64 0] [(0, .t 6)]), qa 8 (.append 23 3 24 (.t 4) (.t 7)), ⟨none, none, .store 1 (.t 1) (.t 8)⟩] []) (qs (qr [qa 3 (.mov qt)] [3]) .ret))
theorem c49 : fnAt Proofs.Tryz.prog 49 [2000002] = some (r49, s49) := by kernel_rfl

def r55 : RL := [(2, none)]
def s55 : SCode := qs (qr [qa 1 (.boxR 8 (.t 0)), qa 2 (.mov (qi 0))] [1]) (qs (qr [qa 3 (.alloc 3 [.int .i64 0]), ⟨none, none, .store 1 (.t 3) (qi 0)⟩] [1, 3]) (qs (qr [qa 4 (lm 8 1), qa 5 (.mkfun (.func 87) [] [.t 3]), qa 6 (.call (.f 48) [.t 4, .t 5])] [3]) (qs (qr [qa 7 (lo 3), qa 2 (mt 7)] [2]) .ret)))
theorem c55 : fnAt Proofs.Tryz.prog 55 [2000001] = some (r55, s55) := by kernel_rfl

def r67 : RL := [(2, none)]
def s67 : SCode := qs (qr [qa 2 (.mov qf)] [0]) (qs (qs (qr [qa 5 (mt 0), qa 6 (.len (.t 5)), qa 7 (.mov (qi 0))] [0, 5, 6, 7]) (qs (.block 0 (.loop (qs (qr [qa 8 (.bin .lss (.t 7) (.t 6))] [0, 5, 6, 7, 8]) (qs (.cond (.t 8) .skip (.exit 0)) (qs (qs (.block 1 (qs (qr [qa 9 (mt 7), qa 10 (.indexA 2 (.t 5) (.t 7)), qa 11 (lm 2 10), qa 4 (.alloc 100 [.int .i64 0, .str []]), qa 3 (mt 9), ⟨none, none, .store 2 (.t 4) (.t 11)⟩] [0, 3, 4, 5, 6, 7]) (qs (qs (qr [qa 12 (mt 3), qa 13 (.bin .eql (.t 12) (qi 0)), qa 14 (mt 13), qb 15 14 (lm 2 4), qb 16 14 (.call (.f 131) [.t 15]), qa 17 (.pick (.t 14) (.t 16) qf)] [0, 4, 5, 6, 7, 17]) (.cond (.t 17) (.exit 1) .skip)) (qs (qr [qa 18 (fa 0 4), qa 19 (lo 18), qa 20 (.bin .leq (.t 19) (qi 0)), qa 21 (mt 20), qc 22 21 (fa 0 4), qc 23 21 (lo 22), qc 24 21 (.bin .gtr (.t 23) (qi 7)), qa 25 (.pick (.t 21) qt (.t 24)), qa 26 (mt 25), qc 27 26 (fa 1 4), qc 28 26 (lo 27), qc 29 26 (.call (.f 84) [.t 28]), qc 30 26 (.not (.t 29)), qa 31 (.pick (.t 26) qt (.t 30))] [0, 5, 6, 7, 31]) (.cond (.t 31) (qs (qr [qa 2 (.mov qf)] [2]) .ret) .skip))))) (qr [] [0, 5, 6, 7])) (qr [qa 32 (.bin .add (.t 7) (qi 1)), qa 7 (mt 32)] [0, 5, 6, 7])))))) (qr [] [0]))) (qs (qr [qa 33 (mt 0), qa 34 (.len (.t 33)), qa 35 (.bin .leq (.t 34) (qi 9)), qa 2 (mt 35)] [2]) .ret))
theorem c67 : fnAt Proofs.Tryz.prog 67 [] = some (r67, s67) := by kernel_rfl

def r70 : RL := [(4, none)]
def s70 : SCode := qs (qr [qa 2 (.boxR 25 (.t 0)), qa 3 (.boxR 25 (.t 1)), qa 4 (.mov qf)] [2, 3]) (qs (qr [qa 8 (fa 0 2), qa 9 (lo 8), qa 10 (fa 0 3), qa 11 (lo 10), qa 12 (.bin .eql (.t 9) (.t 11)), qa 13 (mt 12), qb 14 13 (fa 3 2), qb 15 13 (lo 14), qb 16 13 (fa 3 3), qb 17 13 (lo 16), qb 18 13 (.bin .eql (.t 15) (.t 17)), qa 19 (.pick (.t 13) (.t 18) qf), qa 20 (mt 19), qb 21 20 (fa 4 2), qb 22 20 (lo 21), qb 23 20 (fa 4 3), qb 24 20 (lo 23), qb 25 20 (.bin .eql (.t 22) (.t 24)), qa 26 (.pick (.t 20) (.t 25) qf), qa 27 (mt 26), qb 28 27 (fa 20 2), qb 29 27 (lo 28), qb 30 27 (fa 20 3), qb 31 27 (lo 30), qb 32 27 (.bin .eql (.t 29) (.t 31)), qa 33 (.pick (.t 27) (.t 32) qf), qa 34 (mt 33), qb 35 34 (fa 21 2), qb 36 34 (lo 35), qb 37 34 (fa 21 3), qb 38 34 (lo 37), qb 39 34 (.bin .eql (.t 36) (.t 38)), qa 40 (.pick (.t 34) (.t 39) qf), qa 41 (mt 40), qb 42 41 (fa 22 2), qb 43 41 (lo 42), qb 44 41 (fa 22 3), qb 45 41 (lo 44), qb 46 41 (.bin .eql (.t 43) (.t 45)), qa 47 (.pick (.t 41) (.t 46) qf), qa 5 (mt 47)] [2, 3, 5]) (qs (qr [qa 48 (fa 15 2), qa 49 (lo 48), qa 50 (fa 15 3), qa 51 (lo 50), qa 52 (.bin .eql (.t 49) (.t 51)), qa 53 (mt 52), qb 54 53 (fa 16 2), qb 55 53 (lo 54), qb 56 53 (fa 16 3), qb 57 53 (lo 56), qb 58 53 (.bin .eql (.t 55) (.t 57)), qa 59 (.pick (.t 53) (.t 58) qf), qa 60 (mt 59), qb 61 60 (fa 23 2), qb 62 60 (lo 61), qb 63 60 (fa 23 3), qb 64 60 (lo 63), qb 65 60 (.bin .eql (.t 62) (.t 64)), qa 66 (.pick (.t 60) (.t 65) qf), qa 67 (mt 66), qb 68 67 (fa 17 2), qb 69 67 (lm 3 68), qb 70 67 (fa 17 3), qb 71 67 (lm 3 70), qb 72 67 (.eqs false [1, 1, 2] (.t 69) (.t 71)), qa 73 (.pick (.t 67) (.t 72) qf), qa 6 (mt 73)] [2, 3, 5, 6]) (qs (qr [qa 74 (fa 1 2), qa 75 (lo 74), qa 76 (fa 1 3), qa 77 (lo 76), qa 78 (.call (.f 133) [.t 75, .t 77]), qa 79 (mt 78), qb 80 79 (fa 2 2), qb 81 79 (lo 80), qb 82 79 (fa 2 3), qb 83 79 (lo 82), qb 84 79 (.call (.f 133) [.t 81, .t 83]), qa 85 (.pick (.t 79) (.t 84) qf), qa 86 (mt 85), qb 87 86 (fa 13 2), qb 88 86 (lo 87), qb 89 86 (fa 13 3), qb 90 86 (lo 89), qb 91 86 (.call (.f 134) [.t 88, .t 90]), qa 92 (.pick (.t 86) (.t 91) qf), qa 93 (mt 92), qb 94 93 (fa 14 2), qb 95 93 (lo 94), qb 96 93 (fa 14 3), qb 97 93 (lo 96), qb 98 93 (.call (.f 134) [.t 95, .t 97]), qa 99 (.pick (.t 93) (.t 98) qf), qa 7 (mt 99)] [2, 3, 5, 6, 7]) (qs (qr [qa 100 (mt 5), qa 101 (mt 100), qb 102 101 (mt 6), qa 103 (.pick (.t 101) (.t 102) qf), qa 104 (mt 103), qb 105 104 (mt 7), qa 106 (.pick (.t 104) (.t 105) qf), qa 107 (mt 106), qb 108 107 (fa 5 2), qb 109 107 (lm 8 108), qb 110 107 (fa 5 3), qb 111 107 (lm 8 110), qb 112 107 (.call (.f 29) [.t 109, .t 111]), qa 113 (.pick (.t 107) (.t 112) qf), qa 114 (mt 113), qb 115 114 (fa 24 2), qb 116 114 (lo 115), qb 117 114 (fa 24 3), qb 118 114 (lo 117), qb 119 114 (.call (.f 135) [.t 116, .t 118, .f 70]), qa 120 (.pick (.t 114) (.t 119) qf), qa 4 (mt 120)] [4]) .ret))))
theorem c70 : fnAt Proofs.Tryz.prog 70 [2000002, 2000003] = some (r70, s70) := by kernel_rfl

def r82 : RL := [(2, none)]
def s82 : SCode := qs (qr [qa 2 (.mov (.c .nil))] [0]) (qs (qs (qr [qa 3 (mt 0), qa 4 (.eqnil 0 false (.t 3))] [0, 4]) (.cond (.t 4) (qs (qr [qa 2 (.mov (.c .nil))] [2]) .ret) .skip)) (qs (qr [qa 5 (.raw (.buildSlice 24 0 #[])), qa 6 (mt 0), qa 7 (.raw (.call (.mk (.builtin .append) #[.tmp 5, .tmp 6] #[24, 24]))), qa 2 (mt 7)] [2]) .ret))
theorem c82 : fnAt Proofs.Tryz.prog 82 [3000005, 3000007] = some (r82, s82) := by kernel_rfl

def r85 : RL := [(2, none)]
def s85 : SCode := qs (qr [qa 2 (.mov qf)] [0]) (qs (qr [qa 3 (.mov (.c .nil))] [0, 3]) (qs (qs (qr [qa 6 (mt 0), qa 7 (.len (.t 6)), qa 8 (.mov (qi 0))] [0, 3, 6, 7, 8]) (qs (.block 0 (.loop (qs (qr [qa 9 (.bin .lss (.t 8) (.t 7))] [0, 3, 6, 7, 8, 9]) (qs (.cond (.t 9) .skip (.exit 0)) (qs (qs (.block 1 (qs (qr [qa 10 (.indexA 4 (.t 6) (.t 8)), qa 11 (lm 4 10), qa 5 (.alloc 64 [.str [], .int .i64 0, .int .i64 0, .int .i64 0]), ⟨none, none, .store 4 (.t 5) (.t 11)⟩] [0, 3, 5, 6, 7, 8]) (qr [qa 12 (mt 3), qa 13 (fa 0 5), qa 14 (lo 13), qa 15 (.buildS 9 1 1 [.str []] [(0, .t 14)]), qa 16 (.append 9 1 16 (.t 12) (.t 15)), qa 3 (mt 16)] [0, 3, 6, 7, 8]))) (qr [] [0, 3, 6, 7, 8])) (qr [qa 17 (.bin .add (.t 8) (qi 1)), qa 8 (mt 17)] [0, 3, 6, 7, 8])))))) (qr [] [0, 3]))) (qs (qr [qa 18 (mt 0), qa 19 (.len (.t 18)), qa 20 (.bin .leq (.t 19) (qi 256)), qa 21 (mt 20), qb 22 21 (mt 3), qb 23 21 (.call (.f 158) [.t 22]), qa 24 (.pick (.t 21) (.t 23) qf), qa 2 (mt 24)] [2]) .ret)))
theorem c85 : fnAt Proofs.Tryz.prog 85 [] = some (r85, s85) := by kernel_rfl

def r109 : RL := [(2, none)]
def s109 : SCode := qs (qr [qa 2 (.mov qf)] [0]) (qs (qr [qa 3 (mt 0), qa 4 (.call (.f 127) [.t 3, .c (.int .i64 0), .c (.int .i64 3)]), qa 2 (mt 4)] [2]) .ret)
theorem c109 : fnAt Proofs.Tryz.prog 109 [] = some (r109, s109) := by kernel_rfl

def r112 : RL := [(2, none)]
def s112 : SCode := qs (qr [qa 1 (.boxR 25 (.t 0)), qa 2 (.mov qf)] []) (qs (qr [qa 2 (.mov qt)] [2]) .ret)
theorem c112 : fnAt Proofs.Tryz.prog 112 [2000001] = some (r112, s112) := by kernel_rfl

def r115 : RL := [(4, none)]
def s115 : SCode := qs (qr [qa 4 (.mov qf)] [0, 1]) (qs (qr [qa 5 (mt 0), qa 6 (.call (.f 158) [.t 5]), qa 7 (mt 6), qb 8 7 (mt 0), qb 9 7 (.len (.t 8)), qb 10 7 (mt 1), qb 11 7 (.bin .geq (.t 9) (.t 10)), qa 12 (.pick (.t 7) (.t 11) qf), qa 4 (mt 12)] [4]) .ret)
theorem c115 : fnAt Proofs.Tryz.prog 115 [] = some (r115, s115) := by kernel_rfl

def r118 : RL := [(2, none)]
def s118 : SCode := qs (qr [qa 1 (.boxR 25 (.t 0)), qa 2 (.mov qf)] [1]) (qs (qr [qa 3 (fa 13 1), qa 4 (lo 3), qa 5 (.call (.f 115) [.t 4, .c (.int .i64 0)]), qa 6 (mt 5), qb 7 6 (fa 14 1), qb 8 6 (lo 7), qb 9 6 (.call (.f 115) [.t 8, .c (.int .i64 1)]), qa 10 (.pick (.t 6) (.t 9) qf), qa 11 (mt 10), qb 12 11 (lm 25 1), qb 13 11 (.call (.f 116) [.t 12]), qa 14 (.pick (.t 11) (.t 13) qf), qa 15 (mt 14), qb 16 15 (fa 13 1), qb 17 15 (lo 16), qb 18 15 (.len (.t 17)), qb 19 15 (.bin .gtr (.t 18) (qi 0)), qb 20 15 (mt 19), qc 21 20 (fa 4 1), qc 22 20 (lo 21), qc 23 20 (.bin .eql (.t 22) (qi 0)), qb 24 15 (.pick (.t 20) qt (.t 23)), qa 25 (.pick (.t 15) (.t 24) qf), qa 2 (mt 25)] [2]) .ret)
theorem c118 : fnAt Proofs.Tryz.prog 118 [2000001] = some (r118, s118) := by kernel_rfl

def r121 : RL := [(2, some (true, 25))]
def s121 : SCode := qs (qr [qa 1 (.boxR 25 (.t 0)), qa 2 (.alloc 34 zItm)] [1, 2]) (qs (qr [qa 3 (fa 15 1), qa 4 (lo 3), qa 5 (.build zItm [(15, (1, .t 4))]), ⟨none, none, .store 25 (.t 2) (.t 5)⟩] [2]) .ret)
theorem c121 : fnAt Proofs.Tryz.prog 121 [2000001] = some (r121, s121) := by kernel_rfl

def r124 : RL := [(2, none)]
def s124 : SCode := qs (qr [qa 1 (.boxR 25 (.t 0)), qa 2 (.mov qf)] [1]) (qs (qr [qa 3 (fa 3 1), qa 4 (lo 3), qa 5 (.call (.f 109) [.t 4]), qa 6 (mt 5), qb 7 6 (fa 2 1), qb 8 6 (lo 7), qb 9 6 (.call (.f 67) [.t 8]), qa 10 (.pick (.t 6) (.t 9) qf), qa 2 (mt 10)] [2]) .ret)
theorem c124 : fnAt Proofs.Tryz.prog 124 [2000001] = some (r124, s124) := by kernel_rfl

def r127 : RL := [(6, none)]
def s127 : SCode := qs (qr [qa 6 (.mov qf)] [0, 1, 2]) (qs (qr [qa 7 (mt 0), qa 8 (mt 1), qa 9 (.bin .geq (.t 7) (.t 8)), qa 10 (mt 9), qb 11 10 (mt 0), qb 12 10 (mt 2), qb 13 10 (.bin .leq (.t 11) (.t 12)), qa 14 (.pick (.t 10) (.t 13) qf), qa 6 (mt 14)] [6]) .ret)
theorem c127 : fnAt Proofs.Tryz.prog 127 [] = some (r127, s127) := by kernel_rfl

def r130 : RL := [(4, none)]
def s130 : SCode := qs (qr [qa 2 (.boxR 25 (.t 0)), qa 4 (.mov qf)] [1, 2]) (qs (qr [qa 5 (fa 20 2), qa 6 (lo 5), qa 7 (.call (.f 127) [.t 6, .c (.int .i64 1), .c (.int .i64 1048576)]), qa 8 (mt 7), qb 9 8 (fa 21 2), qb 10 8 (lo 9), qb 11 8 (mt 1), qb 12 8 (.call (.f 127) [.t 10, .t 11, .c (.int .i64 31)]), qa 13 (.pick (.t 8) (.t 12) qf), qa 4 (mt 13)] [4]) .ret)
theorem c130 : fnAt Proofs.Tryz.prog 130 [2000002] = some (r130, s130) := by kernel_rfl

def r133 : RL := [(4, none)]
def s133 : SCode := qs (qr [qa 4 (.mov qf)] [0, 1]) (qs (qs (qr [qa 6 (mt 0), qa 7 (.len (.t 6)), qa 8 (mt 1), qa 9 (.len (.t 8)), qa 10 (.bin .neq (.t 7) (.t 9))] [0, 1, 10]) (.cond (.t 10) (qs (qr [qa 4 (.mov qf)] [4]) .ret) .skip)) (qs (qs (qr [qa 11 (mt 0), qa 12 (.len (.t 11)), qa 13 (.mov (qi 0))] [0, 1, 12, 13]) (qs (.block 0 (.loop (qs (qr [qa 14 (.bin .lss (.t 13) (.t 12))] [0, 1, 12, 13, 14]) (qs (.cond (.t 14) .skip (.exit 0)) (qs (qs (.block 1 (qs (qr [qa 15 (mt 13), qa 5 (mt 15)] [0, 1, 5, 12, 13]) (qs (.draw [qa 16 (mt 0), qa 17 (mt 5), qa 18 (.indexA 2 (.t 16) (.t 17)), qa 19 (lm 2 18), qa 20 (mt 1), qa 21 (mt 5), qa 22 (.indexA 2 (.t 20) (.t 21)), qa 23 (lm 2 22), qa 24 (.eqs true [1, 2] (.t 19) (.t 23))] [0, 1, 12, 13, 24]) (.cond (.t 24) (qs (qr [qa 4 (.mov qf)] [4]) .ret) .skip)))) (qr [] [0, 1, 12, 13])) (qr [qa 25 (.bin .add (.t 13) (qi 1)), qa 13 (mt 25)] [0, 1, 12, 13])))))) (qr [] []))) (qs (qr [qa 4 (.mov qt)] [4]) .ret)))
theorem c133 : fnAt Proofs.Tryz.prog 133 [] = some (r133, s133) := by kernel_rfl

def r178 : RL := [(2, none), (3, none)]
def s178 : SCode := qs (qr [qa 1 (.boxR 8 (.t 0)), qa 2 (.mov (.c (.str []))), qa 3 (.mov (qi 0))] [1]) (qs (qr [qa 6 (lm 8 1), qa 7 (.call (.f 212) [.t 6]), qa 4 (mt 7)] [4]) (qs (qs (qr [qa 8 (mt 4), qa 9 (.len (.t 8)), qa 10 (.bin .eql (.t 9) (qi 0))] [4, 10]) (.cond (.t 10) (qs (qr [qa 2 (.mov (.c (.str []))), qa 3 (.mov (qi 1))] [2, 3]) .ret) .skip)) (qs (qr [qa 11 (mt 4), qa 12 (.call (.f 213) [.t 11, .c (.str [10])]), qa 13 (.bin .add (.t 12) (.c (.str [10]))), qa 5 (mt 13)] [5]) (qs (qs (qr [qa 14 (mt 5), qa 15 (.lenS (.t 14)), qa 16 (.bin .gtr (.t 15) (qi 16384))] [5, 16]) (.cond (.t 16) (qs (qr [qa 2 (.mov (.c (.str []))), qa 3 (.mov (qi 6))] [2, 3]) .ret) .skip)) (qs (qr [qa 17 (mt 5), qa 2 (mt 17), qa 3 (.mov (qi 0))] [2, 3]) .ret)))))
theorem c178 : fnAt Proofs.Tryz.prog 178 [2000001] = some (r178, s178) := by kernel_rfl

def r205 : RL := [(4, none)]
def s205 : SCode := qs (qr [qa 4 (.mov qf)] [0, 1]) (qs (qr [qa 5 (mt 0), qa 6 (mt 1), qa 7 (.call (.f 231) [.t 5, .t 6]), qa 8 (.bin .geq (.t 7) (qi 0)), qa 4 (mt 8)] [4]) .ret)
theorem c205 : fnAt Proofs.Tryz.prog 205 [] = some (r205, s205) := by kernel_rfl

def r208 : RL := [(4, none)]
def s208 : SCode := qs (qr [qa 4 (.mov (qi 0))] [0, 1]) (qs (qs (qr [qa 6 (mt 0), qa 7 (.len (.t 6)), qa 8 (.mov (qi 0))] [0, 1, 7, 8]) (qs (.block 0 (.loop (qs (qr [qa 9 (.bin .lss (.t 8) (.t 7))] [0, 1, 7, 8, 9]) (qs (.cond (.t 9) .skip (.exit 0)) (qs (qs (.block 1 (qs (qr [qa 10 (mt 8), qa 5 (mt 10)] [0, 1, 5, 7, 8]) (qs (qr [qa 11 (mt 1), qa 12 (mt 0), qa 13 (mt 5), qa 14 (.indexA 1 (.t 12) (.t 13)), qa 15 (lo 14), qa 16 (.bin .eql (.t 11) (.t 15))] [0, 1, 5, 7, 8, 16]) (.cond (.t 16) (qs (qr [qa 17 (mt 5), qa 4 (mt 17)] [4]) .ret) .skip)))) (qr [] [0, 1, 7, 8])) (qr [qa 18 (.bin .add (.t 8) (qi 1)), qa 8 (mt 18)] [0, 1, 7, 8])))))) (qr [] []))) (qs (qr [qa 4 (.mov (qi (-1)))] [4]) .ret))
theorem c208 : fnAt Proofs.Tryz.prog 208 [] = some (r208, s208) := by kernel_rfl

def r214 : RL := [(2, none)]
def s214 : SCode := qs (qr [qa 1 (.boxR 8 (.t 0)), qa 2 (.mov qf)] [1]) (qs (qr [qa 3 (.mov (.f 215))] [1, 3]) (qs (qr [qa 4 (fa 0 1), qa 5 (lm 3 4), qa 6 (.build [.int .i64 0, .int .i64 0, .int .i64 0] []), qa 7 (.eqs false [1, 1, 1] (.t 5) (.t 6)), qa 8 (mt 7), qb 9 8 (fa 5 1), qb 10 8 (lo 9), qb 11 8 (mt 3), qb 12 8 (.call (.f 216) [.t 10, .t 11]), qb 13 8 (.not (.t 12)), qa 14 (.pick (.t 8) (.t 13) qf), qa 15 (mt 14), qb 16 15 (fa 6 1), qb 17 15 (lo 16), qb 18 15 (mt 3), qb 19 15 (.call (.f 216) [.t 17, .t 18]), qb 20 15 (.not (.t 19)), qa 21 (.pick (.t 15) (.t 20) qf), qa 2 (mt 21)] [2]) .ret))
theorem c214 : fnAt Proofs.Tryz.prog 214 [2000001] = some (r214, s214) := by kernel_rfl

def r232 : RL := [(2, none)]
def s232 : SCode := qs (qr [qa 2 (.mov qf)] [0]) (qs (qr [qa 3 (mt 0), qa 4 (.bin .lss (.t 3) (.c (.int .u8 33))), qa 5 (mt 4), qc 6 5 (mt 0), qc 7 5 (.bin .gtr (.t 6) (.c (.int .u8 126))), qa 8 (.pick (.t 5) qt (.t 7)), qa 2 (mt 8)] [2]) .ret)
theorem c232 : fnAt Proofs.Tryz.prog 232 [] = some (r232, s232) := by kernel_rfl

def r244 : RL := []
def s244 : SCode := qs (qr [qa 4 (.boxR 8 (.t 0))] [1, 2, 3, 4]) (qs (.drawT (.step (qa 9 (.loadF true 8 (.t 4))) (.step (qa 10 (mt 1)) (.both (.step (qa 8 (lo 2)) (.step (qa 11 (.call (.f 245) [.t 9, .t 10])) (.step (qa 12 (.buildS 9 1 1 [.str []] [(0, .t 11)])) (.step (qa 13 (.append 9 1 16 (.t 8) (.t 12))) (.step ⟨none, none, .store 1 (.t 2) (.t 13)⟩ .done))))) (.step (qa 11 (.call (.f 245) [.t 9, .t 10])) (.both (.step (qa 8 (lo 2)) (.step (qa 12 (.buildS 9 1 1 [.str []] [(0, .t 11)])) (.step (qa 13 (.append 9 1 16 (.t 8) (.t 12))) (.step ⟨none, none, .store 1 (.t 2) (.t 13)⟩ .done)))) (.step (qa 12 (.buildS 9 1 1 [.str []] [(0, .t 11)])) (.step (qa 8 (lo 2)) (.step (qa 13 (.append 9 1 16 (.t 8) (.t 12))) (.step ⟨none, none, .store 1 (.t 2) (.t 13)⟩ .done))))))))) [1, 3, 4]) (qs (qr [qa 14 (fa 7 4), qa 15 (lo 14), qa 16 (.len (.t 15)), qa 17 (.mov (qi 0))] [1, 3, 15, 16, 17]) (qs (.block 0 (.loop (qs (qr [qa 18 (.bin .lss (.t 17) (.t 16))] [1, 3, 15, 16, 17, 18]) (qs (.cond (.t 18) .skip (.exit 0)) (qs (qs (.block 1 (qs (qr [qa 19 (.indexA 8 (.t 15) (.t 17)), qa 20 (lm 8 19), qa 7 (.alloc 27 zU), ⟨none, none, .store 8 (.t 7) (.t 20)⟩] [1, 3, 7, 15, 16, 17]) (qr [qa 21 (lo 3), qa 22 (lm 8 7), qa 23 (mt 1), qa 24 (.bin .add (.t 23) (qi 1)), qa 25 (.call (.t 21) [.t 22, .t 24])] [1, 3, 15, 16, 17]))) (qr [] [1, 3, 15, 16, 17])) (qr [qa 26 (.bin .add (.t 17) (qi 1)), qa 17 (mt 26)] [1, 3, 15, 16, 17])))))) (qr [] []))))
theorem c244 : fnAt Proofs.Tryz.prog 244 [2000004] = some (r244, s244) := by kernel_rfl

def r259 : RL := [(4, none)]
def s259 : SCode := qs (qr [qa 2 (.box 27 8 (.t 0)), qa 4 (.mov qf)] [1, 2]) (qs (qr [qa 5 (.build [.int .i64 0, .int .i64 0, .int .i64 0] []), qa 6 (fa 0 2), ⟨none, none, .store 3 (.t 6) (.t 5)⟩, qa 7 (fa 7 2), ⟨none, none, .store 1 (.t 7) (.c .nil)⟩] [1, 2]) (qs (qr [qa 8 (mt 1), qa 9 (.bin .geq (.t 8) (qi 0)), qa 10 (mt 9), qb 11 10 (mt 1), qb 12 10 (.bin .leq (.t 11) (qi 8)), qa 13 (.pick (.t 10) (.t 12) qf), qa 14 (mt 13), qb 15 14 (lm 8 2), qb 16 14 (.call (.f 243) [.t 15]), qb 17 14 (.call (.f 34) [.t 16]), qa 18 (.pick (.t 14) (.t 17) qf), qa 4 (mt 18)] [4]) .ret))
theorem c259 : fnAt Proofs.Tryz.prog 259 [] = some (r259, s259) := by kernel_rfl

def r301 : RL := [(2, some (true, 25))]
def s301 : SCode := qs (qr [qa 1 (.boxR 25 (.t 0)), qa 2 (.alloc 34 zItm)] [1, 2]) (qs (qr [qa 3 (fa 20 1), qa 4 (lo 3), qa 5 (fa 21 1), qa 6 (lo 5), qa 7 (fa 22 1), qa 8 (lo 7), qa 9 (.build zItm [(20, (1, .t 4)), (21, (1, .t 6)), (22, (1, .t 8))]), ⟨none, none, .store 25 (.t 2) (.t 9)⟩] [2]) .ret)
theorem c301 : fnAt Proofs.Tryz.prog 301 [2000001] = some (r301, s301) := by kernel_rfl

end Go.Av
