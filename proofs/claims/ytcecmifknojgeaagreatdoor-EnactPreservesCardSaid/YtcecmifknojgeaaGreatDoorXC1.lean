/-
  THE TRANSLATED CODE. Printed by mkcode2.py.
-/
import Derived.Test.YtcecmifknojgeaaGreatDoorXDattoXCS
import Derived.Test.YtcecmifknojgeaaGreatDoorXAv25toXAv26
import Derived.Test.YtcecmifknojgeaaGreatDoorProg
namespace Go.Av
open Go

def r30 : RL := [(2, none)]
def s30 : SCode := qs (qr [qa 1 (.boxR 8 (.t 0)), qa 2 (.mov (.c .nil))] [1]) (qs (qr [qa 3 (.alloc 70 [.nil])] [1, 3]) (qs (qr [qa 4 (lm 8 1), qa 5 (.mkfun (.func 49) [] [.t 3]), qa 6 (.call (.f 48) [.t 4, .t 5])] [3]) (qs (qr [qa 7 (lo 3), qa 2 (mt 7)] [2]) .ret)))
theorem c30 : fnAt Proofs.Tryz.prog 30 [2000001] = some (r30, s30) := by kernel_rfl

def r48 : RL := [(4, none)]
def s48 : SCode := qs (qr [qa 2 (.boxR 8 (.t 0)), qa 4 (.mov qf)] [1, 2]) (qs (qs (qr [qa 7 (mt 1), qa 8 (lm 8 2), qa 9 (.call (.t 7) [.t 8]), qa 10 (.not (.t 9))] [1, 2, 10]) (.cond (.t 10) (qs (qr [qa 4 (.mov qf)] [4]) .ret) .skip)) (qs (qs (qr [qa 11 (fa 7 2), qa 12 (lo 11), qa 13 (.len (.t 12)), qa 14 (.mov (qi 0))] [1, 12, 13, 14]) (qs (.block 0 (.loop (qs (qr [qa 15 (.bin .lss (.t 14) (.t 13))] [1, 12, 13, 14, 15]) (qs (.cond (.t 15) .skip (.exit 0)) (qs (qs (.block 1 (qs (qr [qa 16 (.indexA 8 (.t 12) (.t 14)), qa 17 (lm 8 16), qa 6 (.alloc 27 zU), ⟨none, none, .store 8 (.t 6) (.t 17)⟩] [1, 6, 12, 13, 14]) (qs (qr [qa 18 (lm 8 6), qa 19 (mt 1), qa 20 (.call (.f 48) [.t 18, .t 19]), qa 21 (.not (.t 20))] [1, 12, 13, 14, 21]) (.cond (.t 21) (qs (qr [qa 4 (.mov qf)] [4]) .ret) .skip)))) (qr [] [1, 12, 13, 14])) (qr [qa 22 (.bin .add (.t 14) (qi 1)), qa 14 (mt 22)] [1, 12, 13, 14])))))) (qr [] []))) (qs (qr [qa 4 (.mov qt)] [4]) .ret)))
theorem c48 : fnAt Proofs.Tryz.prog 48 [2000002] = some (r48, s48) := by kernel_rfl

def r51 : RL := [(2, some (true, 8))]
def s51 : SCode := qs (qr [qa 1 (.box 27 8 (.t 0)), qa 2 (.alloc 27 zU)] [1, 2]) (qs (.drawT (.step (qa 6 (fa 5 1)) (.step (qa 9 (fa 6 1)) (.both (.step (qa 7 (lo 6)) (.both (.step (qa 8 (.call (.f 82) [.t 7])) (.step (qa 10 (lo 9)) (.step (qa 12 (fa 5 1)) (.step (qa 11 (.call (.f 82) [.t 10])) (.step ⟨none, none, .store 1 (.t 12) (.t 8)⟩ (.step (qa 13 (fa 6 1)) (.step ⟨none, none, .store 1 (.t 13) (.t 11)⟩ .done))))))) (.step (qa 10 (lo 9)) (.step (qa 8 (.call (.f 82) [.t 7])) (.step (qa 12 (fa 5 1)) (.step (qa 11 (.call (.f 82) [.t 10])) (.step ⟨none, none, .store 1 (.t 12) (.t 8)⟩ (.step (qa 13 (fa 6 1)) (.step ⟨none, none, .store 1 (.t 13) (.t 11)⟩ .done))))))))) (.step (qa 10 (lo 9)) (.step (qa 7 (lo 6)) (.step (qa 8 (.call (.f 82) [.t 7])) (.step (qa 12 (fa 5 1)) (.step (qa 11 (.call (.f 82) [.t 10])) (.step ⟨none, none, .store 1 (.t 12) (.t 8)⟩ (.step (qa 13 (fa 6 1)) (.step ⟨none, none, .store 1 (.t 13) (.t 11)⟩ .done))))))))))) [1, 2]) (qs (qr [qa 3 (.mov (.c .nil))] [1, 2, 3]) (qs (qs (qr [qa 14 (fa 7 1), qa 15 (lo 14), qa 16 (.len (.t 15)), qa 17 (.mov (qi 0))] [1, 2, 3, 15, 16, 17]) (qs (.block 0 (.loop (qs (qr [qa 18 (.bin .lss (.t 17) (.t 16))] [1, 2, 3, 15, 16, 17, 18]) (qs (.cond (.t 18) .skip (.exit 0)) (qs (qs (.block 1 (qs (qr [qa 19 (.indexA 8 (.t 15) (.t 17)), qa 20 (lm 8 19), qa 5 (.alloc 27 zU), ⟨none, none, .store 8 (.t 5) (.t 20)⟩] [1, 2, 3, 5, 15, 16, 17]) (qr [qa 21 (mt 3), qa 22 (lm 8 5), qa 23 (.call (.f 51) [.t 22]), qa 24 (.buildS 27 8 1 zU [(0, .t 23)]), qa 25 (.raw (.call (.mk (.builtin .append) #[.tmp 21, .tmp 24] #[25, 25]))), qa 3 (mt 25)] [1, 2, 3, 15, 16, 17]))) (qr [] [1, 2, 3, 15, 16, 17])) (qr [qa 26 (.bin .add (.t 17) (qi 1)), qa 17 (mt 26)] [1, 2, 3, 15, 16, 17])))))) (qr [] [1, 2, 3]))) (qs (qr [qa 27 (mt 3), qa 28 (fa 7 1), ⟨none, none, .store 1 (.t 28) (.t 27)⟩] [1, 2]) (qs (qr [qa 29 (lm 8 1), ⟨none, none, .store 8 (.t 2) (.t 29)⟩] [2]) .ret)))))
theorem c51 : fnAt Proofs.Tryz.prog 51 [3000025] = some (r51, s51) := by kernel_rfl

def r54 : RL := [(2, none)]
def s54 : SCode := qs (qr [qa 1 (.boxR 8 (.t 0)), qa 2 (.mov (qi 0))] [1]) (qs (qr [qa 3 (.mov (qi 0))] [1, 3]) (qs (qs (qr [qa 6 (fa 7 1), qa 7 (lo 6), qa 8 (.len (.t 7)), qa 9 (.mov (qi 0))] [3, 7, 8, 9]) (qs (.block 0 (.loop (qs (qr [qa 10 (.bin .lss (.t 9) (.t 8))] [3, 7, 8, 9, 10]) (qs (.cond (.t 10) .skip (.exit 0)) (qs (qs (.block 1 (qs (qr [qa 11 (.indexA 8 (.t 7) (.t 9)), qa 12 (lm 8 11), qa 5 (.alloc 27 zU), ⟨none, none, .store 8 (.t 5) (.t 12)⟩] [3, 5, 7, 8, 9]) (qr [qa 13 (mt 3), qa 14 (lm 8 5), qa 15 (.call (.f 54) [.t 14]), qa 16 (.bin .add (qi 1) (.t 15)), qa 17 (.raw (.call (.mk (.builtin .max) #[.tmp 13, .tmp 16] #[3, 3]))), qa 3 (mt 17)] [3, 7, 8, 9]))) (qr [] [3, 7, 8, 9])) (qr [qa 18 (.bin .add (.t 9) (qi 1)), qa 9 (mt 18)] [3, 7, 8, 9])))))) (qr [] [3]))) (qs (qr [qa 19 (mt 3), qa 2 (mt 19)] [2]) .ret)))
theorem c54 : fnAt Proofs.Tryz.prog 54 [2000001] = some (r54, s54) := by kernel_rfl

def r66 : RL := [(0, none)]
def s66 : SCode := qs (qr [qa 0 (.mov (.c (.sc (.map none))))] []) (qs (qr [qa 1 (.raw (.makeMap 109 none)), qa 2 (.build [.sc .nilFunc, .sc .nilFunc] [(0, (1, .f 107)), (1, (1, .f 108))]), ⟨none, none, .raw (.insert 109 (.tmp 1) (.const (.int .i64 0)) (.tmp 2))⟩, qa 3 (.build [.sc .nilFunc, .sc .nilFunc] [(0, (1, .f 111)), (1, (1, .f 112))]), ⟨none, none, .raw (.insert 109 (.tmp 1) (.const (.int .i64 1)) (.tmp 3))⟩, qa 4 (.build [.sc .nilFunc, .sc .nilFunc] [(0, (1, .f 113)), (1, (1, .f 114))]), ⟨none, none, .raw (.insert 109 (.tmp 1) (.const (.int .i64 2)) (.tmp 4))⟩, qa 5 (.build [.sc .nilFunc, .sc .nilFunc] [(0, (1, .f 117)), (1, (1, .f 118))]), ⟨none, none, .raw (.insert 109 (.tmp 1) (.const (.int .i64 3)) (.tmp 5))⟩, qa 6 (.build [.sc .nilFunc, .sc .nilFunc] [(0, (1, .f 119)), (1, (1, .f 120))]), ⟨none, none, .raw (.insert 109 (.tmp 1) (.const (.int .i64 4)) (.tmp 6))⟩, qa 7 (.build [.sc .nilFunc, .sc .nilFunc] [(0, (1, .f 121)), (1, (1, .f 122))]), ⟨none, none, .raw (.insert 109 (.tmp 1) (.const (.int .i64 5)) (.tmp 7))⟩, qa 8 (.build [.sc .nilFunc, .sc .nilFunc] [(0, (1, .f 123)), (1, (1, .f 124))]), ⟨none, none, .raw (.insert 109 (.tmp 1) (.const (.int .i64 6)) (.tmp 8))⟩, qa 9 (.load true 2 (.g 0)), ⟨none, none, .raw (.insert 109 (.tmp 1) (.const (.int .i64 7)) (.tmp 9))⟩, qa 10 (.load true 2 (.g 0)), ⟨none, none, .raw (.insert 109 (.tmp 1) (.const (.int .i64 8)) (.tmp 10))⟩, qa 11 (.load true 2 (.g 0)), ⟨none, none, .raw (.insert 109 (.tmp 1) (.const (.int .i64 9)) (.tmp 11))⟩, qa 12 (.build [.sc .nilFunc, .sc .nilFunc] [(0, (1, .f 125)), (1, (1, .f 126))]), ⟨none, none, .raw (.insert 109 (.tmp 1) (.const (.int .i64 10)) (.tmp 12))⟩, qa 13 (.build [.sc .nilFunc, .sc .nilFunc] [(0, (1, .f 128)), (1, (1, .f 129))]), ⟨none, none, .raw (.insert 109 (.tmp 1) (.const (.int .i64 11)) (.tmp 13))⟩, qa 14 (mt 1), qa 0 (mt 14)] [0]) .ret)
theorem c66 : fnAt Proofs.Tryz.prog 66 [] = some (r66, s66) := by kernel_rfl

def r69 : RL := [(2, none)]
def s69 : SCode := qs (qr [qa 1 (.boxR 3 (.t 0)), qa 2 (.mov qf)] [1]) (qs (qs (qr [qa 3 (fa 0 1), qa 4 (lo 3)] [1, 4]) (qs (.block 0 (qs (qs (qr [qa 6 (.bin .eql (.t 4) (qi 0)), qa 5 (mt 6)] [1, 4, 5]) (.cond (.t 5) .skip (qr [qa 7 (.bin .eql (.t 4) (qi 2)), qa 5 (mt 7)] [1, 4, 5]))) (.cond (.t 5) (qs (qr [qa 8 (fa 1 1), qa 9 (lo 8), qa 10 (.bin .eql (.t 9) (qi 0)), qa 11 (mt 10), qb 12 11 (fa 2 1), qb 13 11 (lo 12), qb 14 11 (.bin .eql (.t 13) (.c (.str []))), qa 15 (.pick (.t 11) (.t 14) qf), qa 2 (mt 15)] [2]) .ret) (qs (qr [qa 17 (.bin .eql (.t 4) (qi 1)), qa 16 (mt 17)] [1, 4, 16]) (.cond (.t 16) (qs (qr [qa 18 (fa 1 1), qa 19 (lo 18), qa 20 (.call (.f 127) [.t 19, .c (.int .i64 0), .c (.int .i64 1048576)]), qa 21 (mt 20), qb 22 21 (fa 2 1), qb 23 21 (lo 22), qb 24 21 (.bin .eql (.t 23) (.c (.str []))), qa 25 (.pick (.t 21) (.t 24) qf), qa 2 (mt 25)] [2]) .ret) (qs (qr [qa 27 (.bin .eql (.t 4) (qi 3)), qa 26 (mt 27)] [1, 26]) (.cond (.t 26) (qs (qr [qa 28 (fa 1 1), qa 29 (lo 28), qa 30 (.bin .eql (.t 29) (qi 0)), qa 31 (mt 30), qb 32 31 (fa 2 1), qb 33 31 (lo 32), qb 34 31 (.call (.f 68) [.t 33]), qa 35 (.pick (.t 31) (.t 34) qf), qa 2 (mt 35)] [2]) .ret) .skip))))))) (qr [] []))) (qs (qr [qa 2 (.mov qf)] [2]) .ret))
theorem c69 : fnAt Proofs.Tryz.prog 69 [2000001] = some (r69, s69) := by kernel_rfl

def r84 : RL := [(2, none)]
def s84 : SCode := qs (qr [qa 2 (.mov qf)] [0]) (qs (qr [qa 7 (mt 0), qa 8 (.call (.f 155) [.t 7]), qa 6 (mt 8), qa 9 (.extract 0 (.t 6)), qa 10 (.extract 1 (.t 6)), qa 3 (mt 9), qa 4 (mt 10)] [3, 4]) (qs (qr [qa 5 (.mov (.f 156))] [3, 4, 5]) (qs (qr [qa 11 (mt 3), qa 12 (.lenS (.t 11)), qa 13 (.bin .geq (.t 12) (qi 1)), qa 14 (mt 13), qb 15 14 (mt 3), qb 16 14 (.lenS (.t 15)), qb 17 14 (.bin .leq (.t 16) (qi 4)), qa 18 (.pick (.t 14) (.t 17) qf), qa 19 (mt 18), qb 20 19 (mt 3), qb 21 19 (.index (.t 20) (qi 0)), qb 22 19 (.bin .neq (.t 21) (.c (.int .u8 48))), qa 23 (.pick (.t 19) (.t 22) qf), qa 24 (mt 23), qb 25 24 (mt 4), qb 26 24 (.lenS (.t 25)), qb 27 24 (.bin .leq (.t 26) (qi 3)), qa 28 (.pick (.t 24) (.t 27) qf), qa 29 (mt 28), qb 30 29 (mt 4), qb 31 29 (mt 5), qb 32 29 (.call (.f 157) [.t 30, .t 31]), qb 33 29 (.not (.t 32)), qa 34 (.pick (.t 29) (.t 33) qf), qa 2 (mt 34)] [2]) .ret)))
theorem c84 : fnAt Proofs.Tryz.prog 84 [] = some (r84, s84) := by kernel_rfl

def r87 : RL := [(3, none)]
def s87 : SCode := qs (qr [qa 2 (.boxR 8 (.t 0)), qa 3 (.mov qf)] [1]) (qs (qr [qa 4 (lo 1), qa 5 (.bin .add (.t 4) (qi 1)), ⟨none, none, .store 1 (.t 1) (.t 5)⟩] []) (qs (qr [qa 3 (.mov qt)] [3]) .ret))
theorem c87 : fnAt Proofs.Tryz.prog 87 [2000002] = some (r87, s87) := by kernel_rfl

def r108 : RL := [(2, none)]
def s108 : SCode := qs (qr [qa 1 (.boxR 25 (.t 0)), qa 2 (.mov qf)] [1]) (qs (qr [qa 3 (fa 3 1), qa 4 (lo 3), qa 5 (.call (.f 109) [.t 4]), qa 6 (mt 5), qb 7 6 (fa 5 1), qb 8 6 (lm 8 7), qb 9 6 (.call (.f 110) [.t 8]), qa 10 (.pick (.t 6) (.t 9) qf), qa 2 (mt 10)] [2]) .ret)
theorem c108 : fnAt Proofs.Tryz.prog 108 [2000001] = some (r108, s108) := by kernel_rfl

def r111 : RL := [(2, some (true, 25))]
def s111 : SCode := qs (qr [qa 1 (.boxR 25 (.t 0)), qa 2 (.alloc 34 zItm)] [2]) (qs (qr [qa 3 (.build zItm []), ⟨none, none, .store 25 (.t 2) (.t 3)⟩] [2]) .ret)
theorem c111 : fnAt Proofs.Tryz.prog 111 [2000001] = some (r111, s111) := by kernel_rfl

def r114 : RL := [(2, none)]
def s114 : SCode := qs (qr [qa 1 (.boxR 25 (.t 0)), qa 2 (.mov qf)] [1]) (qs (qr [qa 3 (fa 13 1), qa 4 (lo 3), qa 5 (.call (.f 115) [.t 4, .c (.int .i64 1)]), qa 6 (mt 5), qb 7 6 (fa 14 1), qb 8 6 (lo 7), qb 9 6 (.call (.f 115) [.t 8, .c (.int .i64 0)]), qa 10 (.pick (.t 6) (.t 9) qf), qa 11 (mt 10), qb 12 11 (lm 25 1), qb 13 11 (.call (.f 116) [.t 12]), qa 14 (.pick (.t 11) (.t 13) qf), qa 2 (mt 14)] [2]) .ret)
theorem c114 : fnAt Proofs.Tryz.prog 114 [2000001] = some (r114, s114) := by kernel_rfl

def r117 : RL := [(2, some (true, 25))]
def s117 : SCode := qs (qr [qa 1 (.boxR 25 (.t 0)), qa 2 (.alloc 34 zItm)] [1, 2]) (qs (qr [qa 3 (fa 13 1), qa 4 (lo 3), qa 5 (fa 14 1), qa 6 (lo 5), qa 7 (fa 4 1), qa 8 (lo 7), qa 9 (.build zItm [(13, (1, .t 4)), (14, (1, .t 6)), (4, (1, .t 8))]), ⟨none, none, .store 25 (.t 2) (.t 9)⟩] [2]) .ret)
theorem c117 : fnAt Proofs.Tryz.prog 117 [2000001] = some (r117, s117) := by kernel_rfl

def r120 : RL := [(2, none)]
def s120 : SCode := qs (qr [qa 1 (.boxR 25 (.t 0)), qa 2 (.mov qf)] [1]) (qs (qr [qa 3 (fa 14 1), qa 4 (lo 3), qa 5 (.call (.f 115) [.t 4, .c (.int .i64 0)]), qa 2 (mt 5)] [2]) .ret)
theorem c120 : fnAt Proofs.Tryz.prog 120 [2000001] = some (r120, s120) := by kernel_rfl

def r123 : RL := [(2, some (true, 25))]
def s123 : SCode := qs (qr [qa 1 (.boxR 25 (.t 0)), qa 2 (.alloc 34 zItm)] [1, 2]) (qs (qr [qa 3 (fa 2 1), qa 4 (lo 3), qa 5 (fa 3 1), qa 6 (lo 5), qa 7 (.build zItm [(2, (1, .t 4)), (3, (1, .t 6))]), ⟨none, none, .store 25 (.t 2) (.t 7)⟩] [2]) .ret)
theorem c123 : fnAt Proofs.Tryz.prog 123 [2000001] = some (r123, s123) := by kernel_rfl

def r126 : RL := [(2, none)]
def s126 : SCode := qs (qr [qa 1 (.boxR 25 (.t 0)), qa 2 (.mov qf)] [1]) (qs (qr [qa 3 (fa 23 1), qa 4 (lo 3), qa 5 (.call (.f 68) [.t 4]), qa 6 (mt 5), qb 7 6 (fa 22 1), qb 8 6 (lo 7), qb 9 6 (.call (.f 127) [.t 8, .c (.int .i64 0), .c (.int .i64 1048576)]), qa 10 (.pick (.t 6) (.t 9) qf), qa 2 (mt 10)] [2]) .ret)
theorem c126 : fnAt Proofs.Tryz.prog 126 [2000001] = some (r126, s126) := by kernel_rfl

def r129 : RL := [(2, none)]
def s129 : SCode := qs (qr [qa 1 (.boxR 25 (.t 0)), qa 2 (.mov qf)] [1]) (qs (qr [qa 3 (lm 25 1), qa 4 (.call (.f 130) [.t 3, .c (.int .i64 0)]), qa 5 (mt 4), qb 6 5 (fa 24 1), qb 7 5 (lo 6), qb 8 5 (.len (.t 7)), qb 9 5 (.bin .eql (.t 8) (qi 1)), qa 10 (.pick (.t 5) (.t 9) qf), qa 11 (mt 10), qb 12 11 (fa 24 1), qb 13 11 (lo 12), qb 14 11 (.indexA 25 (.t 13) (qi 0)), qb 15 11 (fa 0 14), qb 16 11 (lo 15), qb 17 11 (.call (.f 41) [.t 16]), qa 18 (.pick (.t 11) (.t 17) qf), qa 19 (mt 18), qb 20 19 (fa 24 1), qb 21 19 (lo 20), qb 22 19 (.indexA 25 (.t 21) (qi 0)), qb 23 19 (lm 25 22), qb 24 19 (.call (.f 38) [.t 23]), qa 25 (.pick (.t 19) (.t 24) qf), qa 2 (mt 25)] [2]) .ret)
theorem c129 : fnAt Proofs.Tryz.prog 129 [2000001] = some (r129, s129) := by kernel_rfl

def r135 : RL := [(6, none)]
def s135 : SCode := qs (qr [qa 6 (.mov qf)] [0, 1, 2]) (qs (qs (qr [qa 10 (mt 0), qa 11 (.len (.t 10)), qa 12 (mt 1), qa 13 (.len (.t 12)), qa 14 (.bin .neq (.t 11) (.t 13))] [0, 1, 2, 14]) (.cond (.t 14) (qs (qr [qa 6 (.mov qf)] [6]) .ret) .skip)) (qs (qs (qr [qa 15 (mt 0), qa 16 (.len (.t 15)), qa 17 (.mov (qi 0))] [1, 2, 15, 16, 17]) (qs (.block 0 (.loop (qs (qr [qa 18 (.bin .lss (.t 17) (.t 16))] [1, 2, 15, 16, 17, 18]) (qs (.cond (.t 18) .skip (.exit 0)) (qs (qs (.block 1 (qs (qr [qa 19 (mt 17), qa 20 (.indexA 25 (.t 15) (.t 17)), qa 21 (lm 25 20), qa 8 (.alloc 34 zItm), qa 7 (mt 19), ⟨none, none, .store 25 (.t 8) (.t 21)⟩] [1, 2, 7, 8, 15, 16, 17]) (qs (qr [qa 22 (mt 1), qa 23 (mt 7), qa 24 (.indexA 25 (.t 22) (.t 23)), qa 25 (lm 25 24), qa 9 (.alloc 34 zItm), ⟨none, none, .store 25 (.t 9) (.t 25)⟩] [1, 2, 8, 9, 15, 16, 17]) (qs (qr [qa 26 (mt 2), qa 27 (lm 25 8), qa 28 (lm 25 9), qa 29 (.call (.t 26) [.t 27, .t 28]), qa 30 (.not (.t 29))] [1, 2, 15, 16, 17, 30]) (.cond (.t 30) (qs (qr [qa 6 (.mov qf)] [6]) .ret) .skip))))) (qr [] [1, 2, 15, 16, 17])) (qr [qa 31 (.bin .add (.t 17) (qi 1)), qa 17 (mt 31)] [1, 2, 15, 16, 17])))))) (qr [] []))) (qs (qr [qa 6 (.mov qt)] [6]) .ret)))
theorem c135 : fnAt Proofs.Tryz.prog 135 [] = some (r135, s135) := by kernel_rfl

def r156 : RL := [(2, none)]
def s156 : SCode := qs (qr [qa 2 (.mov qf)] [0]) (qs (qr [qa 3 (mt 0), qa 4 (.bin .lss (.t 3) (.c (.int .i32 65))), qa 5 (mt 4), qc 6 5 (mt 0), qc 7 5 (.bin .gtr (.t 6) (.c (.int .i32 90))), qa 8 (.pick (.t 5) qt (.t 7)), qa 2 (mt 8)] [2]) .ret)
theorem c156 : fnAt Proofs.Tryz.prog 156 [] = some (r156, s156) := by kernel_rfl

def r159 : RL := [(4, none)]
def s159 : SCode := qs (qr [qa 4 (.mov qf)] [0, 1]) (qs (qr [qa 5 (mt 0), qa 6 (mt 1), qa 7 (.call (.f 208) [.t 5, .t 6]), qa 8 (.bin .geq (.t 7) (qi 0)), qa 4 (mt 8)] [4]) .ret)
theorem c159 : fnAt Proofs.Tryz.prog 159 [] = some (r159, s159) := by kernel_rfl

def r204 : RL := [(2, none)]
def s204 : SCode := qs (qr [qa 2 (.mov qf)] [0]) (qs (qr [qa 3 (mt 0), qa 4 (.bin .lss (.t 3) (.c (.int .i32 48))), qa 5 (mt 4), qc 6 5 (mt 0), qc 7 5 (.bin .gtr (.t 6) (.c (.int .i32 57))), qa 8 (.pick (.t 5) qt (.t 7)), qa 2 (mt 8)] [2]) .ret)
theorem c204 : fnAt Proofs.Tryz.prog 204 [] = some (r204, s204) := by kernel_rfl

def r207 : RL := [(2, none)]
def s207 : SCode := qs (qr [qa 2 (.mov qf)] [0]) (qs (qr [qa 3 (.mov (.f 232))] [0, 3]) (qs (qr [qa 4 (mt 0), qa 5 (.bin .neq (.t 4) (.c (.str []))), qa 6 (mt 5), qb 7 6 (mt 0), qb 8 6 (.lenS (.t 7)), qb 9 6 (.bin .leq (.t 8) (qi 24)), qa 10 (.pick (.t 6) (.t 9) qf), qa 11 (mt 10), qb 12 11 (mt 0), qb 13 11 (.raw (.convert 9 225 (.tmp 12))), qb 14 11 (mt 3), qb 15 11 (.call (.f 233) [.t 13, .t 14]), qb 16 11 (.not (.t 15)), qa 17 (.pick (.t 11) (.t 16) qf), qa 2 (mt 17)] [2]) .ret))
theorem c207 : fnAt Proofs.Tryz.prog 207 [] = some (r207, s207) := by kernel_rfl

def r216 : RL := [(4, none)]
def s216 : SCode := qs (qr [qa 4 (.mov qf)] [0, 1]) (qs (qr [qa 5 (mt 0), qa 6 (mt 1), qa 7 (.call (.f 249) [.t 5, .t 6]), qa 8 (.bin .geq (.t 7) (qi 0)), qa 4 (mt 8)] [4]) .ret)
theorem c216 : fnAt Proofs.Tryz.prog 216 [] = some (r216, s216) := by kernel_rfl

def r231 : RL := [(4, none)]
def s231 : SCode := qs (qr [qa 4 (.mov (qi 0))] [0, 1]) (qs (qs (qr [qa 6 (mt 0), qa 7 (.len (.t 6)), qa 8 (.mov (qi 0))] [0, 1, 7, 8]) (qs (.block 0 (.loop (qs (qr [qa 9 (.bin .lss (.t 8) (.t 7))] [0, 1, 7, 8, 9]) (qs (.cond (.t 9) .skip (.exit 0)) (qs (qs (.block 1 (qs (qr [qa 10 (mt 8), qa 5 (mt 10)] [0, 1, 5, 7, 8]) (qs (qr [qa 11 (mt 1), qa 12 (mt 0), qa 13 (mt 5), qa 14 (.indexA 1 (.t 12) (.t 13)), qa 15 (lo 14), qa 16 (.call (.t 11) [.t 15])] [0, 1, 5, 7, 8, 16]) (.cond (.t 16) (qs (qr [qa 17 (mt 5), qa 4 (mt 17)] [4]) .ret) .skip)))) (qr [] [0, 1, 7, 8])) (qr [qa 18 (.bin .add (.t 8) (qi 1)), qa 8 (mt 18)] [0, 1, 7, 8])))))) (qr [] []))) (qs (qr [qa 4 (.mov (qi (-1)))] [4]) .ret))
theorem c231 : fnAt Proofs.Tryz.prog 231 [] = some (r231, s231) := by kernel_rfl

def r243 : RL := [(2, some (true, 8))]
def s243 : SCode := qs (qr [qa 1 (.box 27 8 (.t 0)), qa 2 (.alloc 27 zU)] [1, 2]) (qs (qr [qa 7 (lm 8 1), qa 8 (.call (.f 51) [.t 7]), ⟨none, none, .store 8 (.t 1) (.t 8)⟩] [1, 2]) (qs (qr [qa 9 (.build [.int .i64 0, .int .i64 0, .int .i64 0] []), qa 10 (fa 0 1), ⟨none, none, .store 3 (.t 10) (.t 9)⟩] [1, 2]) (qs (qs (qr [qa 11 (fa 5 1), qa 12 (lo 11), qa 13 (fa 6 1), qa 14 (lo 13), qa 15 (.buildS 24 1 2 [.nil, .nil] [(0, .t 12), (1, .t 14)]), qa 16 (.len (.t 15)), qa 17 (.mov (qi 0))] [1, 2, 15, 16, 17]) (qs (.block 0 (.loop (qs (qr [qa 18 (.bin .lss (.t 17) (.t 16))] [1, 2, 15, 16, 17, 18]) (qs (.cond (.t 18) .skip (.exit 0)) (qs (qs (.block 1 (qs (qr [qa 19 (.indexA 1 (.t 15) (.t 17)), qa 20 (lo 19), qa 4 (mt 20)] [1, 2, 4, 15, 16, 17]) (qs (qr [qa 21 (mt 4), qa 22 (.len (.t 21)), qa 23 (.mov (qi 0))] [1, 2, 4, 15, 16, 17, 22, 23]) (qs (.block 2 (.loop (qs (qr [qa 24 (.bin .lss (.t 23) (.t 22))] [1, 2, 4, 15, 16, 17, 22, 23, 24]) (qs (.cond (.t 24) .skip (.exit 2)) (qs (qs (.block 3 (qs (qr [qa 25 (mt 23), qa 5 (mt 25)] [1, 2, 4, 5, 15, 16, 17, 22, 23]) (qr [qa 26 (mt 4), qa 27 (mt 5), qa 28 (.build [.int .i64 0, .int .i64 0, .int .i64 0] []), qa 29 (.indexA 4 (.t 26) (.t 27)), qa 30 (fa 1 29), ⟨none, none, .store 3 (.t 30) (.t 28)⟩] [1, 2, 4, 15, 16, 17, 22, 23]))) (qr [] [1, 2, 4, 15, 16, 17, 22, 23])) (qr [qa 31 (.bin .add (.t 23) (qi 1)), qa 23 (mt 31)] [1, 2, 4, 15, 16, 17, 22, 23])))))) (qr [] [1, 2, 15, 16, 17]))))) (qr [] [1, 2, 15, 16, 17])) (qr [qa 32 (.bin .add (.t 17) (qi 1)), qa 17 (mt 32)] [1, 2, 15, 16, 17])))))) (qr [] [1, 2]))) (qs (qs (qr [qa 33 (fa 7 1), qa 34 (lo 33), qa 35 (.len (.t 34)), qa 36 (.mov (qi 0))] [1, 2, 35, 36]) (qs (.block 4 (.loop (qs (qr [qa 37 (.bin .lss (.t 36) (.t 35))] [1, 2, 35, 36, 37]) (qs (.cond (.t 37) .skip (.exit 4)) (qs (qs (.block 5 (qs (qr [qa 38 (mt 36), qa 6 (mt 38)] [1, 2, 6, 35, 36]) (.drawT (.step (qa 39 (fa 7 1)) (.step (qa 41 (mt 6)) (.step (qa 42 (fa 7 1)) (.step (qa 44 (mt 6)) (.both (.step (qa 40 (lo 39)) (.step (qa 43 (lo 42)) (.step (qa 45 (.indexA 8 (.t 43) (.t 44))) (.step (qa 46 (lm 8 45)) (.step (qa 47 (.call (.f 243) [.t 46])) (.step (qa 48 (.indexA 8 (.t 40) (.t 41))) (.step ⟨none, none, .store 8 (.t 48) (.t 47)⟩ .done))))))) (.step (qa 43 (lo 42)) (.step (qa 45 (.indexA 8 (.t 43) (.t 44))) (.both (.step (qa 40 (lo 39)) (.step (qa 46 (lm 8 45)) (.step (qa 47 (.call (.f 243) [.t 46])) (.step (qa 48 (.indexA 8 (.t 40) (.t 41))) (.step ⟨none, none, .store 8 (.t 48) (.t 47)⟩ .done))))) (.step (qa 46 (lm 8 45)) (.both (.step (qa 40 (lo 39)) (.step (qa 47 (.call (.f 243) [.t 46])) (.step (qa 48 (.indexA 8 (.t 40) (.t 41))) (.step ⟨none, none, .store 8 (.t 48) (.t 47)⟩ .done)))) (.step (qa 47 (.call (.f 243) [.t 46])) (.step (qa 40 (lo 39)) (.step (qa 48 (.indexA 8 (.t 40) (.t 41))) (.step ⟨none, none, .store 8 (.t 48) (.t 47)⟩ .done)))))))))))))) [1, 2, 35, 36]))) (qr [] [1, 2, 35, 36])) (qr [qa 49 (.bin .add (.t 36) (qi 1)), qa 36 (mt 49)] [1, 2, 35, 36])))))) (qr [] [1, 2]))) (qs (qr [qa 50 (lm 8 1), ⟨none, none, .store 8 (.t 2) (.t 50)⟩] [2]) .ret)))))
theorem c243 : fnAt Proofs.Tryz.prog 243 [] = some (r243, s243) := by kernel_rfl

def r249 : RL := [(4, none)]
def s249 : SCode := qs (qr [qa 4 (.mov (qi 0))] [0, 1]) (qs (qs (qr [qa 6 (mt 0), qa 7 (.len (.t 6)), qa 8 (.mov (qi 0))] [0, 1, 7, 8]) (qs (.block 0 (.loop (qs (qr [qa 9 (.bin .lss (.t 8) (.t 7))] [0, 1, 7, 8, 9]) (qs (.cond (.t 9) .skip (.exit 0)) (qs (qs (.block 1 (qs (qr [qa 10 (mt 8), qa 5 (mt 10)] [0, 1, 5, 7, 8]) (qs (qr [qa 11 (mt 1), qa 12 (mt 0), qa 13 (mt 5), qa 14 (.indexA 4 (.t 12) (.t 13)), qa 15 (lm 4 14), qa 16 (.call (.t 11) [.t 15])] [0, 1, 5, 7, 8, 16]) (.cond (.t 16) (qs (qr [qa 17 (mt 5), qa 4 (mt 17)] [4]) .ret) .skip)))) (qr [] [0, 1, 7, 8])) (qr [qa 18 (.bin .add (.t 8) (qi 1)), qa 8 (mt 18)] [0, 1, 7, 8])))))) (qr [] []))) (qs (qr [qa 4 (.mov (qi (-1)))] [4]) .ret))
theorem c249 : fnAt Proofs.Tryz.prog 249 [] = some (r249, s249) := by kernel_rfl

def r258 : RL := [(4, none)]
def s258 : SCode := qs (qr [qa 4 (.mov (qi 0))] [0, 1]) (qs (qs (qr [qa 6 (mt 0), qa 7 (.len (.t 6)), qa 8 (.mov (qi 0))] [0, 1, 7, 8]) (qs (.block 0 (.loop (qs (qr [qa 9 (.bin .lss (.t 8) (.t 7))] [0, 1, 7, 8, 9]) (qs (.cond (.t 9) .skip (.exit 0)) (qs (qs (.block 1 (qs (qr [qa 10 (mt 8), qa 5 (mt 10)] [0, 1, 5, 7, 8]) (qs (qr [qa 11 (mt 1), qa 12 (mt 0), qa 13 (mt 5), qa 14 (.indexA 1 (.t 12) (.t 13)), qa 15 (lo 14), qa 16 (.call (.t 11) [.t 15])] [0, 1, 5, 7, 8, 16]) (.cond (.t 16) (qs (qr [qa 17 (mt 5), qa 4 (mt 17)] [4]) .ret) .skip)))) (qr [] [0, 1, 7, 8])) (qr [qa 18 (.bin .add (.t 8) (qi 1)), qa 8 (mt 18)] [0, 1, 7, 8])))))) (qr [] []))) (qs (qr [qa 4 (.mov (qi (-1)))] [4]) .ret))
theorem c258 : fnAt Proofs.Tryz.prog 258 [] = some (r258, s258) := by kernel_rfl

def r261 : RL := [(4, none)]
def s261 : SCode := qs (qr [qa 4 (.mov (.c (.str [])))] [0, 1]) (qs (qs (qr [qa 7 (mt 1), qa 8 (.len (.t 7)), qa 9 (.mov (qi 0))] [0, 7, 8, 9]) (qs (.block 0 (.loop (qs (qr [qa 10 (.bin .lss (.t 9) (.t 8))] [0, 7, 8, 9, 10]) (qs (.cond (.t 10) .skip (.exit 0)) (qs (qs (.block 1 (qs (qr [qa 11 (.indexA 4 (.t 7) (.t 9)), qa 12 (lm 4 11), qa 6 (.alloc 64 [.str [], .int .i64 0, .int .i64 0, .int .i64 0]), ⟨none, none, .store 4 (.t 6) (.t 12)⟩] [0, 6, 7, 8, 9]) (qs (qr [qa 13 (mt 0), qa 14 (.bin .add (.t 13) (.c (.str [32]))), qa 0 (mt 14)] [0, 6, 7, 8, 9]) (qs (qs (qr [qa 15 (fa 0 6), qa 16 (lo 15), qa 17 (.index (.t 16) (qi 0)), qa 18 (.bin .eql (.t 17) (.c (.int .u8 124))), qa 19 (mt 18), qc 20 19 (fa 0 6), qc 21 19 (lo 20), qc 22 19 (.index (.t 21) (qi 0)), qc 23 19 (.bin .eql (.t 22) (.c (.int .u8 92))), qa 24 (.pick (.t 19) qt (.t 23))] [0, 6, 7, 8, 9, 24]) (.cond (.t 24) (qr [qa 25 (mt 0), qa 26 (.bin .add (.t 25) (.c (.str [92]))), qa 0 (mt 26)] [0, 6, 7, 8, 9]) .skip)) (qr [qa 27 (mt 0), qa 28 (fa 0 6), qa 29 (lo 28), qa 30 (.bin .add (.t 27) (.t 29)), qa 0 (mt 30)] [0, 7, 8, 9]))))) (qr [] [0, 7, 8, 9])) (qr [qa 31 (.bin .add (.t 9) (qi 1)), qa 9 (mt 31)] [0, 7, 8, 9])))))) (qr [] [0]))) (qs (qr [qa 32 (mt 0), qa 4 (mt 32)] [4]) .ret))
theorem c261 : fnAt Proofs.Tryz.prog 261 [] = some (r261, s261) := by kernel_rfl

end Go.Av
