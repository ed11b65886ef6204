/-
  THE TRANSLATED CODE. Printed by mkcode2.py.
-/
import Derived.Test.YtjdccoplpljmlaaGreatDoorVXDattoXC1
import Derived.Test.YtjdccoplpljmlaaGreatDoorVXAv26toXGlob
import Derived.Test.YtjdccoplpljmlaaGreatDoorProg
import Derived.Test.YtjdccoplpljmlaaGreatDoorVXL13toXFrN
namespace Go.Av
open Go List
set_option linter.unusedSimpArgs false
set_option linter.unusedVariables false
abbrev Ze14:SCode:=qr [Qu 18 .add 8 1,Qm 8 18] [0,1,7,8]
abbrev Ze13:List AV:=[.str [],.int .i64 0,.int .i64 0,.int .i64 0]
abbrev Ze12:SCode:=qR [Qi 4 (-1)] [4] .ret
abbrev Ze11:SOper:=qa 12 (.buildS 29 8 1 zU [(0,.c (.agg zU))])
abbrev Ze10:SOper:=qa 50 (.raw (.slice 27 (.tmp 46) (some (.tmp 49)) none none))
abbrev Ze9:SOper:=qa 53 (.raw (.slice 27 (.tmp 51) (some (.tmp 52)) none none))
abbrev Ze8:SOper:=qa 73 (.raw (.slice 27 (.tmp 69) (some (.tmp 72)) none none))
abbrev Ze7:SOper:=qa 76 (.raw (.slice 27 (.tmp 74) (some (.tmp 75)) none none))
abbrev Ze6:DT:=.step (qa 54 (.raw (.call (.mk (.builtin .copy) #[.tmp 50,.tmp 53] #[27,27])))) .done
abbrev Ze5:DT:=.step (qa 77 (.raw (.call (.mk (.builtin .copy) #[.tmp 73,.tmp 76] #[27,27])))) .done
abbrev Ze4:SCode:=.cond (.t 16) (qR [Qm 17 5,Qm 4 17] [4] .ret) .skip
abbrev Ze3:DT:=.step (qc 63 59 (.call (.f 39) [.t 62])) (.step (qc 64 59 (.bin .add (.t 61) (.t 63))) (.step (qc 65 59 (.bin .gtr (.t 64) (qi 1024))) (.step (Qq 66 59 65) .done)))
abbrev Ze2:List AV:=[.int .i64 0,.int .i64 0,.int .i64 0]
abbrev Ze1:DT:=.step (qa 13 (.raw (.call (.mk (.builtin .append) #[.tmp 9,.tmp 12] #[27,27])))) (.step (Qx 14 8 13 11) (.both (.step (QS 8 14 10) (.step (QS 1 2 13) .done)) (.step (QS 1 2 13) (.step (QS 8 14 10) .done))))
abbrev Ze0:DT:=.step (qc 57 53 (.call (.f 273) [.t 54,.t 55,.t 56])) (.step (Qq 58 53 57) (.step (Qm 59 58) (.step (qc 60 59 (.loadF true 8 (.t 3))) (.both (.step (qc 61 59 (.call (.f 39) [.t 60])) (.step (qc 62 59 (lm 8 13)) Ze3)) (.step (qc 62 59 (lm 8 13)) (.step (qc 61 59 (.call (.f 39) [.t 60])) Ze3))))))
def r71:RL:=[(0,some (true,8))]
def s71:SCode:=qR [QU 0 29] [0] (qR [qa 1 (.build zU [(3,(1,qi 0))]),QS 8 0 1] [0] .ret)
theorem c71:FB 71 []=some (r71,s71):=by kernel_rfl
def r143:RL:=[(4,none)]
def s143:SCode:=qR [Qb 3 3 1,Qi 4 0] [0,3] (qs (qR [Qm 6 0,Qn 7 6,Qi 8 0] [0,3,7,8] (qs (.block 0 (.loop (qR [Qv 9 .lss 8 7] [0,3,7,8,9] (qs (qX 9) (qs (qs (.block 1 (qR [Qm 10 8,Qm 5 10] [0,3,5,7,8] (qs (.drawL [Qs 11 3 3,Qm 12 0,Qm 13 5,Qx 14 3 12 13,Ql 15 3 14,qa 16 (.eqs false [1,1,1] (.t 11) (.t 15))] [0,3,5,7,8,16]) Ze4))) (qr [] [0,3,7,8])) (qr [Qu 18 .add 8 1,Qm 8 18] [0,3,7,8])))))) (qr [] []))) Ze12)
theorem c143:FB 143 [2000003]=some (r143,s143):=by kernel_rfl
def r185:RL:=[(4,some (true,3)),(5,none)]
def s185:SCode:=qR [Qb 2 8 0,qa 4 (.alloc 25 Ze2),Qi 5 0] [1,2,4] (qR [Ql 7 8 2,Qm 8 1,Q2 9 237 7 8,Qm 6 9] [4,6] (qs (qR [Qm 10 6,Qn 11 10] [4,6,11] (qs (.block 0 (qR [Qu 13 .eql 11 0,Qm 12 13] [4,6,11,12] (.cond (.t 12) (qR [qa 14 (.build Ze2 []),QS 3 4 14,Qi 5 7] [4,5] .ret) (qR [Qu 16 .eql 11 1,Qm 15 16] [4,6,15] (.cond (.t 15) (qR [Qm 17 6,qa 18 (.indexA 3 (.t 17) (qi 0)),Ql 19 3 18,QS 3 4 19,Qi 5 0] [4,5] .ret) .skip))))) (qr [] [4]))) (qR [qa 20 (.build Ze2 []),QS 3 4 20,Qi 5 8] [4,5] .ret)))
theorem c185:FB 185 [2000002]=some (r185,s185):=by kernel_rfl
def r230:RL:=[(6,some (true,8)),(7,none)]
def s230:SCode:=qR [Qb 3 8 0,Qb 4 8 1,Qb 5 28 2,QU 6 29,Qi 7 0] [3,5,6] (qR [Ql 17 8 3,Qa 18 3 5,Ql 19 25 18,Q2 20 270 17 19,Qm 16 20,Qe 21 0 16,Qe 22 1 16,Qe 23 2 16,qa 8 (.alloc 25 Ze2),qa 9 (.alloc 3 [.int .i64 0]),QS 3 8 21,QS 1 9 22,Qm 10 23] [3,5,6,8,9,10] (qs (qR [Qm 24 10,Qu 25 .neq 24 0] [3,5,6,8,9,10,25] (.cond (.t 25) (qR [Ql 26 8 3,Qm 27 10,QS 8 6 26,Qm 7 27] [6,7] .ret) .skip)) (qR [Ql 29 8 3,Ql 30 3 8,Q2 31 111 29 30,Qm 28 31,Qe 32 0 28,Qe 33 1 28,QU 11 29,QS 8 11 32,Qm 12 33] [3,5,6,8,9,11] (qR [Qa 34 3 5,Qa 35 5 34,Ql 36 8 35,Qa 37 0 5,Qo 38 37,Qa 39 1 5,Qo 40 39,Q3 41 271 36 38 40,QU 13 29,QS 8 13 41] [3,6,8,9,11,13] (qs (qR [Ql 42 8 11,Ql 43 8 13,Q2 44 272 42 43,Qm 14 44] [3,6,8,9,11,13,14] (qR [Qm 45 14,Qu 46 .neq 45 0] [3,6,8,9,11,13,14,46] (.cond (.t 46) (qR [Ql 47 8 3,Qm 48 14,QS 8 6 47,Qm 7 48] [6,7] .ret) .skip))) (qs (qs (.drawT (.step (Qa 49 7 11) (.step (Qo 50 49) (.step (Qn 51 50) (.step (Qu 52 .geq 51 64) (.step (Qm 53 52) (.step (qc 54 53 (.loadF true 8 (.t 3))) (.both (.step (qc 55 53 (lm 3 8)) (.step (qc 56 53 (lm 8 13)) Ze0)) (.step (qc 56 53 (lm 8 13)) (.step (qc 55 53 (lm 3 8)) Ze0))))))))) [3,6,8,9,13,66]) (.cond (.t 66) (qR [Ql 67 8 3,QS 8 6 67,Qi 7 6] [6,7] .ret) .skip)) (qR [Ql 68 8 3,Q1 69 10 68,qa 15 (.alloc 32 [.nil]),QS 1 15 69] [3,6,8,9,13,15] (qs (qR [Ql 70 8 13,Q1 71 10 70,qa 72 (.mkfun (.func 275) [] [.t 15]),Q2 73 274 71 72] [3,6,8,9,13,73] (.cond (.t 73) (qR [Ql 74 8 3,QS 8 6 74,Qi 7 5] [6,7] .ret) .skip)) (qR [Ql 75 8 3,Ql 76 3 8,qa 77 (.mkfun (.func 277) [] [.t 9,.t 13]),Q3 78 276 75 76 77,QS 8 6 78,Qi 7 0] [6,7] .ret)))))))))
theorem c230:FB 230 [2000003,2000004,2000005]=some (r230,s230):=by kernel_rfl
def r233:RL:=[(6,some (true,8)),(7,none)]
def s233:SCode:=qR [Qb 3 8 0,Qb 4 8 1,Qb 5 28 2,QU 6 29,Qi 7 0] [3,4,5,6] (qR [Qa 11 6 4,Qo 12 11,Qa 13 3 5,Qa 14 13 13,Qo 15 14,Qa 16 3 5,Qa 17 14 16,Qo 18 17,Qa 19 3 5,Qa 20 4 19,Qo 21 20,Qa 22 0 5,Qo 23 22,Qa 24 1 5,Qo 25 24,Q6 26 282 12 15 18 21 23 25,Qm 10 26,Qe 27 0 10,Qe 28 1 10,qa 8 (.alloc 26 [.nil]),QS 1 8 27,Qm 9 28] [3,4,6,8,9] (qs (qR [Qm 29 9,Qu 30 .neq 29 0] [3,4,6,8,9,30] (.cond (.t 30) (qR [Ql 31 8 3,Qm 32 9,QS 8 6 31,Qm 7 32] [6,7] .ret) .skip)) (qR [Ql 33 8 3,Qa 34 0 4,Ql 35 3 34,qa 36 (.mkfun (.func 283) [] [.t 8]),Q3 37 276 33 35 36,QS 8 6 37,Qi 7 0] [6,7] .ret)))
theorem c233:FB 233 [2000003,2000004,2000005]=some (r233,s233):=by kernel_rfl
def r236:RL:=[(6,some (true,8)),(7,none)]
def s236:SCode:=qR [Qb 3 8 0,QB 4 29 8 1,Qb 5 28 2,QU 6 29,Qi 7 0] [3,4,5,6] (qR [Ql 19 8 3,Qa 20 3 5,Ql 21 25 20,Q2 22 270 19 21,Qm 18 22,Qe 23 0 18,Qe 24 1 18,Qe 25 2 18,qa 8 (.alloc 25 Ze2),qa 9 (.alloc 3 [.int .i64 0]),QS 3 8 23,QS 1 9 24,Qm 10 25] [3,4,6,8,9,10] (qs (qR [Qm 26 10,Qu 27 .neq 26 0] [3,4,6,8,9,10,27] (.cond (.t 27) (qR [Ql 28 8 3,Qm 29 10,QS 8 6 28,Qm 7 29] [6,7] .ret) .skip)) (qR [Ql 31 8 3,Qa 32 0 4,Ql 33 3 32,Q2 34 286 31 33,Qm 30 34,Qe 35 0 30,Qe 36 1 30,Qe 37 2 30,qa 11 (.alloc 25 Ze2),QS 3 11 35,Qm 12 36,Qm 13 37] [3,4,6,8,9,11] (qR [Ql 38 8 3,Qa 39 0 4,Ql 40 3 39,Q2 41 279 38 40,QU 14 29,QS 8 14 41] [3,4,6,8,9,11,14] (qR [Ql 43 8 14,Ql 44 3 8,Q2 45 111 43 44,Qm 42 45,Qe 46 0 42,Qe 47 1 42,QU 15 29,QS 8 15 46,Qm 16 47] [3,4,6,8,9,11,14,15] (qs (qR [Ql 48 8 15,Ql 49 8 4,Q2 50 272 48 49,Qm 17 50] [3,4,6,8,9,11,14,15,17] (qR [Qm 51 17,Qu 52 .neq 51 0] [3,4,6,8,9,11,14,15,17,52] (.cond (.t 52) (qR [Ql 53 8 3,Qm 54 17,QS 8 6 53,Qm 7 54] [6,7] .ret) .skip))) (qs (qR [Ql 55 3 8,Ql 56 3 11,qa 57 (.eqs true [1,1,1] (.t 55) (.t 56)),Qm 58 57,qb 59 58 (fa 7 15),qb 60 58 (lo 59),qb 61 58 (.len (.t 60)),qb 62 58 (.bin .geq (.t 61) (qi 64)),Qp 63 58 62,Qm 64 63,qc 65 64 (lm 8 14),qc 66 64 (lm 3 8),qc 67 64 (lm 8 4),qc 68 64 (.call (.f 273) [.t 65,.t 66,.t 67]),Qq 69 64 68] [3,4,6,8,9,14,69] (.cond (.t 69) (qR [Ql 70 8 3,QS 8 6 70,Qi 7 6] [6,7] .ret) .skip)) (qR [Ql 71 8 14,Ql 72 3 8,qa 73 (.mkfun (.func 288) [] [.t 9,.t 4]),Q3 74 276 71 72 73,QS 8 6 74,Qi 7 0] [6,7] .ret))))))))
theorem c236:FB 236 [2000003,2000005]=some (r236,s236):=by kernel_rfl
def r272:RL:=[(4,none)]
def s272:SCode:=qR [Qb 2 8 0,QB 3 29 8 1,Qi 4 0] [2,3] (qs (qR [Qa 5 3 2,Qo 6 5,Qa 7 3 3,Qo 8 7,Q2 9 77 6 8,Qr 10 9] [2,3,10] (.cond (.t 10) (qR [Qi 4 9] [4] .ret) .skip)) (qs (qR [Qa 11 7 2,Qo 12 11,qa 13 (.mkfun (.func 327) [] [.t 3]),Q2 14 326 12 13] [14] (.cond (.t 14) (qR [Qi 4 10] [4] .ret) .skip)) (qR [Qi 4 0] [4] .ret)))
theorem c272:FB 272 [2000002]=some (r272,s272):=by kernel_rfl
def r275:RL:=[(3,none)]
def s275:SCode:=qR [Qb 2 3 0,Qf 3] [1,2] (qR [Qo 4 1,Ql 5 3 2,Q2 6 109 4 5,Qm 3 6] [3] .ret)
theorem c275:FB 275 [2000002]=some (r275,s275):=by kernel_rfl
def r278:RL:=[(6,none)]
def s278:SCode:=qR [Qz 6] [0,1,2] (qR [Qm 10 0,Qm 11 1,qa 12 (.raw (.slice 27 (.tmp 10) (some (.tmp 11)) none none))] [0,1,2] (qR [Qm 13 2,Qn 14 13,Qm 7 14] [0,1,2,7] (qs (qR [Qm 15 7,Qu 16 .eql 15 0] [0,1,2,7,16] (.cond (.t 16) (qR [Qm 17 0,Qm 6 17] [6] .ret) .skip)) (qR [Qm 18 0,Qn 19 18,Qm 8 19] [0,1,2,7,8] (qs (qR [Qm 20 1,Qm 21 8,Qv 22 .eql 20 21] [0,1,2,7,8,22] (.cond (.t 22) (qR [Qm 23 0,Qm 24 2,qa 25 (.raw (.call (.mk (.builtin .append) #[.tmp 23,.tmp 24] #[27,27]))),Qm 6 25] [6] .ret) .skip)) (qs (qR [Qm 26 8,Qm 27 7,Qv 28 .add 26 27,Qm 29 0,qa 30 (.raw (.call (.mk (.builtin .cap) #[.tmp 29] #[27]))),Qv 31 .gtr 28 30] [0,1,2,7,8,31] (.cond (.t 31) (qR [Qm 32 0,Qm 33 1,qa 34 (.raw (.slice 27 (.tmp 32) none (some (.tmp 33)) none)),Qm 35 8,Qm 36 7,Qv 37 .add 35 36,Qm 38 1,Qv 39 .sub 37 38,qa 40 (.raw (.call (.mk (.builtin .append) #[.tmp 34,.tmp 39] #[27,3]))),Qm 9 40] [0,1,2,7,9] (qR [Qm 41 9,Qm 42 1,qa 43 (.raw (.slice 27 (.tmp 41) (some (.tmp 42)) none none)),Qm 44 2,qa 45 (.raw (.call (.mk (.builtin .copy) #[.tmp 43,.tmp 44] #[27,27])))] [0,1,7,9] (qs (.drawT (.step (Qm 46 9) (.step (Qm 47 1) (.step (Qm 48 7) (.step (Qv 49 .add 47 48) (.step (Qm 51 0) (.step (Qm 52 1) (.both (.step Ze10 (.step Ze9 Ze6)) (.step Ze9 (.step Ze10 Ze6))))))))) [9]) (qR [Qm 55 9,Qm 6 55] [6] .ret)))) .skip)) (qR [Qm 56 0,Qm 57 8,Qm 58 7,Qv 59 .add 57 58,qa 60 (.raw (.slice 27 (.tmp 56) none (some (.tmp 59)) none)),Qm 0 60] [0,1,2,7,8] (qs (qR [Qm 61 2,Qm 62 0,Qm 63 1,Qm 64 7,Qv 65 .add 63 64,qa 66 (.raw (.slice 27 (.tmp 62) (some (.tmp 65)) none none)),Q2 67 331 61 66,Qr 68 67] [0,1,2,7,8,68] (.cond (.t 68) (qs (.drawT (.step (Qm 69 0) (.step (Qm 70 1) (.step (Qm 71 7) (.step (Qv 72 .add 70 71) (.step (Qm 74 0) (.step (Qm 75 1) (.both (.step Ze8 (.step Ze7 Ze5)) (.step Ze7 (.step Ze8 Ze5))))))))) [0,1,2]) (qR [Qm 78 0,Qm 79 1,qa 80 (.raw (.slice 27 (.tmp 78) (some (.tmp 79)) none none)),Qm 81 2,qa 82 (.raw (.call (.mk (.builtin .copy) #[.tmp 80,.tmp 81] #[27,27])))] [0] (qR [Qm 83 0,Qm 6 83] [6] .ret))) .skip)) (qR [Qm 84 0,Qm 85 8,qa 86 (.raw (.slice 27 (.tmp 84) (some (.tmp 85)) none none)),Qm 87 2,qa 88 (.raw (.call (.mk (.builtin .copy) #[.tmp 86,.tmp 87] #[27,27])))] [0,1,7] (qR [Qm 89 0,Qm 90 1,qa 91 (.raw (.slice 27 (.tmp 89) (some (.tmp 90)) none none)),Qm 92 7,Q2 93 332 91 92] [0] (qR [Qm 94 0,Qm 6 94] [6] .ret)))))))))))
theorem c278:FB 278 [3000012,3000025,3000034,3000043,3000050,3000053,3000060,3000066,3000073,3000076,3000080,3000086,3000091]=some (r278,s278):=by kernel_rfl
def r281:RL:=[]
def s281:SCode:=qr [Qm 3 0,Qo 4 1,Qc 5 3,Qa 6 6 5,QS 1 6 4] []
theorem c281:FB 281 []=some (r281,s281):=by kernel_rfl
def r284:RL:=[(8,none)]
def s284:SCode:=qR [Qz 8] [0,1,2,3] (qR [Qz 9] [0,1,2,3,9] (qs (qR [Qm 12 0,Qn 13 12,Qi 14 0] [1,2,3,9,12,13,14] (qs (.block 0 (.loop (qR [Qv 15 .lss 14 13] [1,2,3,9,12,13,14,15] (qs (qX 15) (qs (qs (.block 1 (qR [Qm 16 14,Qx 17 1 12 14,Qo 18 17,Qm 10 16,Qm 11 18] [1,2,3,9,10,11,12,13,14] (qr [Qm 19 9,Qm 20 11,Qm 21 1,Qm 22 2,Qm 23 3,Qm 24 10,Qv 25 .add 23 24,qa 26 (.build Ze2 [(0,(1,.t 21)),(1,(1,.t 22)),(2,(1,.t 25))]),qa 27 (.build Ze13 [(0,(1,.t 20)),(1,(3,.t 26))]),qa 28 (.buildS 88 4 1 Ze13 [(0,.t 27)]),Qw 29 88 4 40 19 28,Qm 9 29] [1,2,3,9,12,13,14]))) (qr [] [1,2,3,9,12,13,14])) (qr [Qu 30 .add 14 1,Qm 14 30] [1,2,3,9,12,13,14])))))) (qr [] [9]))) (qR [Qm 31 9,Qm 8 31] [8] .ret)))
theorem c284:FB 284 []=some (r284,s284):=by kernel_rfl
def r287:RL:=[]
def s287:SCode:=qr [Qm 3 0,Qa 4 3 1,Qa 5 15 4,Qo 6 5,Qc 7 3,Qa 8 4 7,QS 1 8 6] []
theorem c287:FB 287 []=some (r287,s287):=by kernel_rfl
def r323:RL:=[(2,none)]
def s323:SCode:=qR [Qf 2] [0] (qR [Qm 3 0,Qu 4 .geq 3 0,Qm 5 4,Bm 6 5 0,qb 7 5 (.bin .leq (.t 6) (qi 3)),Qp 8 5 7,Qm 2 8] [2] .ret)
theorem c323:FB 323 []=some (r323,s323):=by kernel_rfl
def r326:RL:=[(4,none)]
def s326:SCode:=qR [Qf 4] [0,1] (qR [Qm 5 0,Qm 6 1,Q2 7 338 5 6,Qu 8 .geq 7 0,Qm 4 8] [4] .ret)
theorem c326:FB 326 []=some (r326,s326):=by kernel_rfl
def r329:RL:=[(4,none)]
def s329:SCode:=qR [Qi 4 0] [0,1] (qs (qR [Qm 6 0,Qn 7 6,Qi 8 0] [0,1,7,8] (qs (.block 0 (.loop (qR [Qv 9 .lss 8 7] [0,1,7,8,9] (qs (qX 9) (qs (qs (.block 1 (qR [Qm 10 8,Qm 5 10] [0,1,5,7,8] (qR [Qm 11 1,Qm 12 0,Qm 13 5,Qx 14 3 12 13,Ql 15 3 14,qa 16 (.call (.t 11) [.t 15])] [0,1,5,7,8,16] Ze4))) (qr [] [0,1,7,8])) Ze14))))) (qr [] []))) Ze12)
theorem c329:FB 329 []=some (r329,s329):=by kernel_rfl
def r335:RL:=[(6,none)]
def s335:SCode:=qR [Qz 6] [0,1,2] (qR [Qm 8 0,Q1 9 366 8,Qm 10 1,Q2 11 148 9 10,Qm 7 11] [2,7] (qs (qs (.block 0 (qR [Qm 13 2,Qu 14 .eql 13 0,Qm 12 14] [2,7,12] (.cond (.t 12) (qR [Qm 15 7,Qm 6 15] [6] .ret) (qR [Qm 17 2,Qm 18 7,Qn 19 18,Qv 20 .gtr 17 19,Qm 16 20] [2,7,16] (.cond (.t 16) (qR [Qz 6] [6] .ret) .skip))))) (qr [] [2,7])) (qR [Qm 21 7,Qm 22 2,Qu 23 .sub 22 1,Qm 24 2,qa 25 (.slice 1 (.t 21) (some (.t 23)) (some (.t 24))),Qm 6 25] [6] .ret)))
theorem c335:FB 335 []=some (r335,s335):=by kernel_rfl
def r338:RL:=[(4,none)]
def s338:SCode:=qR [Qi 4 0] [0,1] (qs (qR [Qm 6 0,Qn 7 6,Qi 8 0] [0,1,7,8] (qs (.block 0 (.loop (qR [Qv 9 .lss 8 7] [0,1,7,8,9] (qs (qX 9) (qs (qs (.block 1 (qR [Qm 10 8,Qm 5 10] [0,1,5,7,8] (qR [Qm 11 1,Qm 12 0,Qm 13 5,Qx 14 8 12 13,Ql 15 8 14,qa 16 (.call (.t 11) [.t 15])] [0,1,5,7,8,16] Ze4))) (qr [] [0,1,7,8])) Ze14))))) (qr [] []))) Ze12)
theorem c338:FB 338 []=some (r338,s338):=by kernel_rfl
def r341:RL:=[]
def s341:SCode:=qR [Qb 3 8 0] [1,2,3] (qs (.drawL [Qs 4 8 3,Qo 5 1,qa 6 (.indexA 2 (.t 5) (qi 0)),Ql 7 2 6,Q2 8 342 4 7] [2,3,8]) (.cond (.t 8) (.drawT (.step (Qs 10 8 3) (.both (.step (Qo 9 2) (.step (Qn 11 9) (.step Ze11 Ze1))) (.step Ze11 (.step (Qo 9 2) (.step (Qn 11 9) Ze1))))) []) .skip))
theorem c341:FB 341 [2000003,3000013]=some (r341,s341):=by kernel_rfl
def r380:RL:=[(2,none)]
def s380:SCode:=qR [Qi 2 0] [] (qR [Qi 2 0] [2] .ret)
theorem c380:FB 380 []=some (r380,s380):=by kernel_rfl
def r383:RL:=[(4,some (true,4)),(5,none)]
def s383:SCode:=qR [Qb 2 8 0,Qb 3 3 1,qa 4 (.alloc 342 [.int .i64 0,.int .i64 0,.int .i64 0,.int .i64 0]),Qi 5 0] [2,3,4] (qR [Ql 6 8 2,Ql 7 3 3,qa 8 (.call (.f 384) [.t 6,.t 7,qi 1]),Qe 9 0 8,Qe 10 1 8,QS 4 4 9,Qm 5 10] [4,5] .ret)
theorem c383:FB 383 [2000002,2000003]=some (r383,s383):=by kernel_rfl
end Go.Av
namespace Go.Av
open Go Go.RowKit Go.Proofs List
set_option linter.unusedSimpArgs false
set_option linter.unusedVariables false
theorem U.idss_nil:U.idss []=[]:=by unfold U.idss;rw[U.flats];rfl
theorem U.idss_app (a b:List U):U.idss (a++b)=U.idss a++U.idss b:=by
 induction a with
 |nil=>rw[U.idss_nil];rfl
 |cons x a ih=>rw[cons_append,U.idss_cons,U.idss_cons,ih,append_assoc]
def orW:List U->List U->List U
 |[],q=>q
 |x::p,_=>x::p
def fu (u:U):List U->List U
 |[]=>[]
 |x::p=>u::x::p
theorem orW_nil {p q:List U}:orW p q=[]↔p=[]/\q=[]:=by cases p<;>simp[orW]
theorem consW_nil {u:U} {p:List U}:fu u p=[]↔p=[]:=by cases p<;>simp[fu]
theorem consW_ne {u:U} {p:List U} (h:p≠[]):fu u p=u::p:=by cases p<;>simp_all[fu]
theorem orW_ne {p q:List U} (h:p≠[]):orW p q=p:=by cases p<;>simp_all[orW]
mutual
def U.way (i:Idd):U->List U
 |⟨d,k,l,h,w,ks⟩=>if d=i then [⟨d,k,l,h,w,ks⟩]else fu ⟨d,k,l,h,w,ks⟩ (U.ways i ks)
def U.ways (i:Idd):List U->List U
 |[]=>[]
 |u::us=>orW (U.way i u) (U.ways i us)
end
theorem U.way_eq (i:Idd) (u:U):U.way i u=if u.id=i then [u]else fu u (U.ways i u.kids):=by cases u;rw[U.way]
theorem U.ways_nil (i:Idd):U.ways i []=[]:=by rw[U.ways]
theorem U.ways_cons (i:Idd) (u:U) (us:List U):U.ways i (u::us)=orW (U.way i u) (U.ways i us):=by rw[U.ways]
theorem kh {i:Idd} {us:List U} (h:∀k∈us,(U.way i k=[]↔i∉k.ids)):U.ways i us=[]↔i∉U.idss us:=by
 induction us with
 |nil=>rw[U.ways_nil,U.idss_nil];simp
 |cons u us ih=>
  rw[U.ways_cons,U.idss_cons,orW_nil,mem_append,h u (by simp),ih λk hk=>h k (by simp[hk])]
  simp[not_or]
theorem dS {i:Idd}:∀u:U,U.way i u=[]↔i∉u.ids:=by
 refine U.ind λu ih=>?_
 rw[U.way_eq,U.ids_eq,mem_cons]
 by_cases h:u.id=i
 ·simp[h]
 ·rw[if_neg h,consW_nil,kh ih]
  simp[Ne.symm h]
theorem ways_no {i:Idd} (us:List U):U.ways i us=[]↔i∉U.idss us:=kh λk _=>dS k
theorem cE {i:Idd} {u:U}:U.way i u≠[]↔i∈u.ids:=by rw[Ne,dS];simp
structure Split (i:Idd) (us a:List U) (k:U) (b:List U):Prop where
 eq:us=a++k::b
 mem:i∈k.ids
 left:i∉U.idss a
 right:i∉U.idss b
 nd:k.ids.Nodup
theorem eU {i:Idd} {us:List U} (hn:(U.idss us).Nodup) (hi:i∈U.idss us):∃a k b,Split i us a k b:=by
 induction us with
 |nil=>rw[U.idss_nil]at hi;cases hi
 |cons u us ih=>
  rw[U.idss_cons]at hn hi
  obtain⟨n1,n2,n3⟩:=nodup_append.1 hn
  by_cases h:i∈u.ids
  ·exact⟨[],u,us,rfl,h,by rw[U.idss_nil];simp,λhr=>n3 i h i hr rfl,n1⟩
  ·obtain⟨a,k,b,e,h1,h2,h3,h4⟩:=ih n2 ((mem_append.1 hi).resolve_left h)
   refine⟨u::a,k,b,by rw[e];rfl,h1,?_,h3,h4⟩
   rw[U.idss_cons,mem_append,not_or]
   exact⟨h,h2⟩
theorem U.nd_kids {u:U} (h:u.ids.Nodup):(U.idss u.kids).Nodup/\u.id∉U.idss u.kids:=by
 rw[U.ids_eq,nodup_cons]at h
 exact⟨h.2,h.1⟩
theorem U.wayInd {i:Idd} {p:U->Prop} (h0:∀u,u.ids.Nodup->u.id=i->p u)
  (h1:∀u a k b,u.ids.Nodup->u.id≠i->Split i u.kids a k b->p k->p u) (u:U) (hn:u.ids.Nodup) (hi:i∈u.ids):p u:=by
 revert hn hi
 refine U.ind (p:=λu=>u.ids.Nodup->i∈u.ids->p u) (λu ih hn hi=>?_) u
 by_cases h:u.id=i
 ·exact h0 u hn h
 ·rw[U.ids_eq,mem_cons]at hi
  obtain⟨a,k,b,s⟩:=eU (U.nd_kids hn).1 (hi.resolve_left (Ne.symm h))
  exact h1 u a k b hn h s (ih k (by rw[s.eq];simp) s.nd s.mem)
theorem kH (i:Idd) (a b:List U):U.ways i (a++b)=orW (U.ways i a) (U.ways i b):=by
 induction a with
 |nil=>rw[U.ways_nil];rfl
 |cons x a ih=>
  rw[cons_append,U.ways_cons,U.ways_cons,ih]
  cases U.way i x<;>simp[orW]
theorem Split.ways {i:Idd} {us a b:List U} {k:U} (s:Split i us a k b):U.ways i us=U.way i k:=by
 rw[s.eq,kH,(ways_no a).2 s.left,U.ways_cons]
 show orW (U.way i k) _=_
 rw[orW_ne (cE.2 s.mem)]
theorem Split.way {i:Idd} {u:U} {a b:List U} {k:U} (hu:u.id≠i) (s:Split i u.kids a k b):U.way i u=u::U.way i k:=by
 rw[U.way_eq,if_neg hu,s.ways,consW_ne (cE.2 s.mem)]
theorem aV {i:Idd} {u:U} (h:u.id=i):U.way i u=[u]:=by rw[U.way_eq,if_pos h]
/-! ### a unit changed -/
mutual
def U.wth (i:Idd) (f:U->U):U->U
 |⟨d,k,l,h,w,ks⟩=>if d=i then f ⟨d,k,l,h,w,ks⟩else ⟨d,k,l,h,w,U.wths i f ks⟩
def U.wths (i:Idd) (f:U->U):List U->List U
 |[]=>[]
 |u::us=>if U.way i u=[]then u::U.wths i f us else U.wth i f u::us
end
theorem U.wth_eq (i:Idd) (f:U->U) (u:U):U.wth i f u=if u.id=i then f u else {u with kids:=U.wths i f u.kids}:=by cases u;rw[U.wth]
theorem U.wths_nil (i:Idd) (f:U->U):U.wths i f []=[]:=by rw[U.wths]
theorem U.wths_cons (i:Idd) (f:U->U) (u:U) (us:List U):U.wths i f (u::us)=if U.way i u=[]then u::U.wths i f us else U.wth i f u::us:=by rw[U.wths]
theorem wths_no {i:Idd} {f:U->U}:∀{us:List U},i∉U.idss us->U.wths i f us=us
 |[],_=>U.wths_nil i f
 |u::us,h=>by
  rw[U.idss_cons,mem_append,not_or]at h
  rw[U.wths_cons,if_pos ((dS u).2 h.1),wths_no h.2]
theorem wth_no {i:Idd} {f:U->U} {u:U} (h:i∉u.ids):U.wth i f u=u:=by
 rw[U.ids_eq,mem_cons,not_or]at h
 rw[U.wth_eq,if_neg (Ne.symm h.1),wths_no h.2]
 cases u;rfl
theorem wths_app {i:Idd} {f:U->U} {a b:List U} (h:i∉U.idss a):U.wths i f (a++b)=a++U.wths i f b:=by
 induction a with
 |nil=>rfl
 |cons x a ih=>
  rw[U.idss_cons,mem_append,not_or]at h
  rw[cons_append,U.wths_cons,if_pos ((dS x).2 h.1),ih h.2]
  rfl
theorem Split.wths {i:Idd} {f:U->U} {us a b:List U} {k:U} (s:Split i us a k b):U.wths i f us=a++U.wth i f k::b:=by
 rw[s.eq,wths_app s.left,U.wths_cons,if_neg (cE.2 s.mem)]
theorem Split.wth {i:Idd} {f:U->U} {u:U} {a b:List U} {k:U} (hu:u.id≠i) (s:Split i u.kids a k b):U.wth i f u={u with kids:=a++U.wth i f k::b}:=by
 rw[U.wth_eq,if_neg hu,s.wths]
theorem cC {i:Idd} {f:U->U} {u:U} (h:u.id=i):U.wth i f u=f u:=by rw[U.wth_eq,if_pos h]
/-! ### parents -/
def bF {α:Type} (p:α->Bool):List α->Option Nat
 |[]=>none
 |x::l=>if p x then some 0 else (bF p l).map (· +1)
theorem jo {α:Type} {p:α->Bool} {a b:List α} {k:α} (ha:∀x∈a,p x=false) (hk:p k=true):bF p (a++k::b)=some a.length:=by
 induction a with
 |nil=>simp[bF,hk]
 |cons x a ih=>
  rw[cons_append,bF,ha x (by simp),ih λy hy=>ha y (by simp[hy])]
  simp
theorem jM {α:Type} {p:α->Bool} {a:List α} (ha:∀x∈a,p x=false):bF p a=none:=by
 induction a with
 |nil=>rfl
 |cons x a ih=>rw[bF,ha x (by simp),ih λy hy=>ha y (by simp[hy])];rfl
mutual
def U.par (i:Idd):U->Option (U×Nat×Nat)
 |⟨d,k,l,h,w,ks⟩=>match bF (λk=>decide (k.id=i)) ks with
  |some j=>some (⟨d,k,l,h,w,ks⟩,0,j)
  |none=>U.pars i ks
def U.pars (i:Idd):List U->Option (U×Nat×Nat)
 |[]=>none
 |u::us=>match U.par i u with
  |some (p,d,j)=>some (p,d+1,j)
  |none=>U.pars i us
end
theorem U.par_eq (i:Idd) (u:U):U.par i u=match bF (λk=>decide (k.id=i)) u.kids with
  |some j=>some (u,0,j)
  |none=>U.pars i u.kids:=by cases u;rw[U.par]
theorem U.pars_nil (i:Idd):U.pars i []=none:=by rw[U.pars]
theorem U.pars_cons (i:Idd) (u:U) (us:List U):U.pars i (u::us)=match U.par i u with
  |some (p,d,j)=>some (p,d+1,j)
  |none=>U.pars i us:=by rw[U.pars]
theorem iu {i:Idd} {us:List U} {k:U} (hk:k∈us) (h:i∈k.ids):i∈U.idss us:=by
 induction us with
 |nil=>cases hk
 |cons u us ih=>
  rw[U.idss_cons,mem_append]
  rcases mem_cons.1 hk with rfl|hk
  ·exact .inl h
  ·exact .inr (ih hk)
theorem mp (u:U):u.id∈u.ids:=by rw[U.ids_eq];simp
theorem iD {i:Idd} {us:List U} (h:i∉U.idss us):∀x∈us,decide (x.id=i)=false:=λx hx=>by
 refine decide_eq_false λe=>h (iu hx ?_)
 rw[←e];exact mp x
theorem oq {i:Idd} {us:List U} (h:∀k∈us,i∉k.ids->U.par i k=none) (hi:i∉U.idss us):U.pars i us=none:=by
 induction us with
 |nil=>rw[U.pars_nil]
 |cons u us ih=>
  rw[U.idss_cons,mem_append,not_or]at hi
  rw[U.pars_cons,h u (by simp) hi.1]
  exact ih (λk hk=>h k (by simp[hk])) hi.2
theorem par_no {i:Idd}:∀u:U,i∉U.idss u.kids->U.par i u=none:=by
 refine U.ind λu ih h=>?_
 rw[U.par_eq,jM (iD h)]
 refine oq (λk hk hi=>ih k hk λhm=>hi ?_) h
 rw[U.ids_eq];exact mem_cons_of_mem _ hm
theorem pars_app {i:Idd} {a b:List U} (h:i∉U.idss a):U.pars i (a++b)=U.pars i b:=by
 induction a with
 |nil=>rfl
 |cons x a ih=>
  rw[U.idss_cons,mem_append,not_or]at h
  rw[cons_append,U.pars_cons,par_no x λhm=>h.1 (by rw[U.ids_eq];exact mem_cons_of_mem _ hm)]
  exact ih h.2
def aM (i:Idd) (u:U):Option (U×Nat×Nat):=match (U.way i u).reverse with
 |_::p::r=>some (p,r.length,(bF (λk=>!(U.way i k).isEmpty) p.kids).getD 0)
 |_=>none
theorem Split.no_way {i:Idd} {us a b:List U} {k:U} (s:Split i us a k b):bF (λk=>!(U.way i k).isEmpty) us=some a.length:=by
 rw[s.eq]
 refine jo (λx hx=>?_) ?_
 ·rw[(dS x).2 λh=>s.left (iu hx h)];rfl
 ·have:=cE.2 s.mem
  cases h:U.way i k with
  |nil=>exact absurd h this
  |cons _ _=>rfl
theorem par_way {i:Idd} (u:U) (hn:u.ids.Nodup) (hi:i∈u.ids):U.par i u=aM i u:=by
 refine U.wayInd (i:=i) (p:=λu=>U.par i u=aM i u) ?_ ?_ u hn hi
 ·intro u hn h
  have:=(U.nd_kids hn).2
  rw[h]at this
  unfold aM
  rw[aV h,par_no u this]
  rfl
 ·intro u a k b _ h s ih
  unfold aM at ih ⊢
  rw[s.way h,U.par_eq]
  by_cases hk:k.id=i
  ·have e:bF (λk=>decide (k.id=i)) u.kids=some a.length:=by
    rw[s.eq]
    exact jo (iD s.left) (decide_eq_true hk)
   have e2:=s.no_way
   rw[e,aV hk]
   simp[e2]
  ·have e:bF (λk=>decide (k.id=i)) u.kids=none:=by
    rw[s.eq]
    refine jM λx hx=>?_
    rcases mem_append.1 hx with hx|hx
    ·exact iD s.left x hx
    ·rcases mem_cons.1 hx with rfl|hx
     ·exact decide_eq_false hk
     ·exact iD s.right x hx
   have hkn:i∈U.idss k.kids:=by
    have:=s.mem
    rw[U.ids_eq,mem_cons]at this
    exact this.resolve_left (Ne.symm hk)
   obtain⟨a2,k2,b2,s2⟩:=eU (U.nd_kids s.nd).1 hkn
   rw[e]
   simp only
   rw[s.eq,pars_app s.left,U.pars_cons,ih,s2.way hk]
   have hne:U.way i k2≠[]:=cE.2 s2.mem
   obtain⟨l,y,hl⟩:∃l y,U.way i k2=l++[y]:=⟨_,_,(dropLast_concat_getLast hne).symm⟩
   rw[hl]
   simp only[reverse_cons,reverse_append,reverse_nil,nil_append,cons_append,append_assoc]
   cases hr:l.reverse<;>simp
theorem Split.other {i q:Idd} {us a b:List U} {k:U} (s:Split i us a k b) (hn:(U.idss us).Nodup) (hq:q∈k.ids):Split q us a k b:=by
 refine⟨s.eq,hq,?_,?_,s.nd⟩
 ·intro h
  rw[s.eq,U.idss_app,U.idss_cons]at hn
  exact(nodup_append.1 hn).2.2 q h q (mem_append.2 (.inl hq)) rfl
 ·intro h
  rw[s.eq,U.idss_app,U.idss_cons]at hn
  exact(nodup_append.1 (nodup_append.1 hn).2.1).2.2 q hq q h rfl
theorem Split.ne {i q:Idd} {u k:U} {a b:List U} (hn:u.ids.Nodup) (s:Split i u.kids a k b) (hq:q∈k.ids):u.id≠q:=λe=>by
 refine(U.nd_kids hn).2 ?_
 rw[e,s.eq,U.idss_app,U.idss_cons]
 exact mem_append.2 (.inr (mem_append.2 (.inl hq)))
theorem dG {i:Idd} {u:U} (h:u.id=i):aM i u=none:=by unfold aM;rw[aV h];rfl
theorem jY {i:Idd} {u k:U} {a b:List U} (h:u.id≠i) (s:Split i u.kids a k b) (hk:k.id=i):aM i u=some (u,0,a.length):=by
 unfold aM
 rw[s.way h,aV hk]
 simp[s.no_way]
theorem jf {i:Idd} {u k:U} {a b:List U} (h:u.id≠i) (s:Split i u.kids a k b) (hk:k.id≠i):aM i u=(aM i k).map λq=>(q.1,q.2.1+1,q.2.2):=by
 have hkn:i∈U.idss k.kids:=by
  have:=s.mem
  rw[U.ids_eq,mem_cons]at this
  exact this.resolve_left (Ne.symm hk)
 obtain⟨a2,k2,b2,s2⟩:=eU (U.nd_kids s.nd).1 hkn
 unfold aM
 rw[s.way h,s2.way hk]
 have hne:U.way i k2≠[]:=cE.2 s2.mem
 obtain⟨l,y,hl⟩:∃l y,U.way i k2=l++[y]:=⟨_,_,(dropLast_concat_getLast hne).symm⟩
 rw[hl]
 simp only[reverse_cons,reverse_append,reverse_nil,nil_append,cons_append,append_assoc]
 cases hr:l.reverse<;>simp
structure Par (i:Idd) (u p:U) (d j:Nat):Prop where
 path:U.way i u=U.way p.id u++[(U.way i u).getLastD p]
 deep:(U.way p.id u).length=d+1
 last:(U.way p.id u).getLast?=some p
 mem:p.id∈u.ids
 ne:u.id≠i
 nd:p.ids.Nodup
 split:∃a k b,Split i p.kids a k b/\k.id=i/\j=a.length/\(U.way i u).getLast?=some k
theorem er {i:Idd} (u:U) (hn:u.ids.Nodup) (hi:i∈u.ids):∀{p d j},aM i u=some (p,d,j)->Par i u p d j:=by
 refine U.wayInd (i:=i) (p:=λu=>∀{p d j},aM i u=some (p,d,j)->Par i u p d j) ?_ ?_ u hn hi
 ·intro u _ h p d j e
  rw[dG h]at e;cases e
 ·intro u a k b hn h s ih p d j e
  by_cases hk:k.id=i
  ·rw[jY h s hk]at e
   injection e with e
   injection e with e1 e2
   injection e2 with e2 e3
   subst e1 e2 e3
   have hw:U.way i u=[u,k]:=by rw[s.way h,aV hk]
   refine⟨?_,?_,?_,mp u,h,hn,a,k,b,s,hk,rfl,?_⟩
   ·rw[hw,aV rfl];rfl
   ·rw[aV rfl];rfl
   ·rw[aV rfl];rfl
   ·rw[hw];rfl
  ·rw[jf h s hk]at e
   obtain⟨⟨p',d',j'⟩,e',e2⟩:=Option.map_eq_some_iff.1 e
   injection e2 with e1 e2
   injection e2 with e2 e3
   subst e1 e2 e3
   obtain⟨h1,h2,h3,h4,h5,h6,a',k',b',s',hk',hj,hl⟩:=ih e'
   have sp:=s.other (U.nd_kids hn).1 h4
   have hu:=Split.ne hn s h4
   have hwne:U.way i k≠[]:=cE.2 s.mem
   have hpne:U.way p'.id k≠[]:=cE.2 h4
   refine⟨?_,?_,?_,?_,h,h6,a',k',b',s',hk',hj,?_⟩
   ·rw[s.way h,sp.way hu,h1]
    simp[getLastD_cons,getLast?_cons]
   ·rw[sp.way hu,length_cons,h2]
   ·rw[sp.way hu,getLast?_cons,h3];rfl
   ·rw[U.ids_eq]
    refine mem_cons_of_mem _ ?_
    rw[s.eq,U.idss_app,U.idss_cons]
    exact mem_append.2 (.inr (mem_append.2 (.inl h4)))
   ·rw[s.way h,getLast?_cons,hl];rfl
/-! ### a way in a tree of which one unit was changed -/
theorem orW_map (g:U->U) (p q:List U):(orW p q).map g=orW (p.map g) (q.map g):=by cases p<;>simp[orW]
theorem lj (g:U->U) (u:U) (p:List U):(fu u p).map g=fu (g u) (p.map g):=by cases p<;>simp[fu]
theorem jr {t:Idd} {us:List U} (h:∀k∈us,∀v∈U.way t k,∀q∈v.ids,q∈k.ids):∀v∈U.ways t us,∀q∈v.ids,q∈U.idss us:=by
 induction us with
 |nil=>intro v hv;rw[U.ways_nil]at hv;cases hv
 |cons u us ih=>
  intro v hv q hq
  rw[U.ways_cons]at hv
  rw[U.idss_cons,mem_append]
  cases hw:U.way t u with
  |nil=>
   rw[hw]at hv
   exact .inr (ih (λk hk=>h k (by simp[hk])) v hv q hq)
  |cons x l=>
   rw[hw]at hv
   exact .inl (h u (by simp) v (by rw[hw];exact hv) q hq)
theorem jJ {t:Idd}:∀u:U,∀v∈U.way t u,∀q∈v.ids,q∈u.ids:=by
 refine U.ind λu ih v hv q hq=>?_
 rw[U.way_eq]at hv
 split at hv
 ·simp only[mem_singleton]at hv;subst hv;exact hq
 ·cases hw:U.ways t u.kids with
  |nil=>rw[hw]at hv;cases hv
  |cons x l=>
   rw[hw]at hv
   rcases mem_cons.1 hv with rfl|hv
   ·exact hq
   ·rw[U.ids_eq]
    exact mem_cons_of_mem _ (jr ih v (by rw[hw];exact hv) q hq)
theorem map_no {j t:Idd} {f:U->U} {us:List U} (h:j∉U.idss us):(U.ways t us).map (U.wth j f)=U.ways t us:=by
 conv=>rhs;rw[←map_id (U.ways t us)]
 refine map_congr_left λv hv=>?_
 exact wth_no λhq=>h (jr (λk _=>jJ k) v hv j hq)
theorem map_no1 {j t:Idd} {f:U->U} {u:U} (h:j∉u.ids):(U.way t u).map (U.wth j f)=U.way t u:=by
 conv=>rhs;rw[←map_id (U.way t u)]
 refine map_congr_left λv hv=>?_
 exact wth_no λhq=>h (jJ u v hv j hq)
theorem il {us:List U} {k y:U} (hk:k∈us) (hy:y∈k.flat):y∈U.flats us:=by
 induction us with
 |nil=>cases hk
 |cons u us ih=>
  rw[U.flats,mem_append]
  rcases mem_cons.1 hk with rfl|hk
  ·exact .inl hy
  ·exact .inr (ih hk)
theorem mH {j t:Idd} {f:U->U} {us:List U} (hn:(U.idss us).Nodup) (h:∀k∈us,k.ids.Nodup->U.way t (U.wth j f k)=(U.way t k).map (U.wth j f)):U.ways t (U.wths j f us)=(U.ways t us).map (U.wth j f):=by
 induction us with
 |nil=>rw[U.wths_nil,U.ways_nil];rfl
 |cons u us ih=>
  rw[U.idss_cons]at hn
  obtain⟨n1,n2,n3⟩:=nodup_append.1 hn
  rw[U.wths_cons,U.ways_cons,orW_map]
  split
  ·rename_i hw
   rw[U.ways_cons,ih n2 λk hk=>h k (by simp[hk]),map_no1 ((dS u).1 hw)]
  ·rename_i hw
   have hj:=cE.1 hw
   rw[U.ways_cons,h u (by simp) n1,map_no λhm=>n3 j hj j hm rfl]
theorem way_wth {j t:Idd} {f:U->U}:∀u:U,u.ids.Nodup->(∀y∈u.flat,y.id=j->(f y).id=y.id/\U.ways t (f y).kids=U.ways t y.kids)->U.way t (U.wth j f u)=(U.way t u).map (U.wth j f):=by
 refine U.ind λu ih hn hf=>?_
 obtain⟨n1,n2⟩:=U.nd_kids hn
 by_cases hj:u.id=j
 ·obtain⟨f1,f2⟩:=hf u (by rw[U.flat_eq];simp) hj
  rw[cC hj,U.way_eq,U.way_eq,f1]
  split
  ·simp[cC hj]
  ·rw[f2,lj,cC hj,map_no (by rw[←hj];exact n2)]
 ·rw[U.wth_eq,if_neg hj,U.way_eq,U.way_eq]
  simp only
  split
  ·simp only[map_cons,map_nil]
   rw[U.wth_eq,if_neg hj]
  ·rw[lj,mH n1 λk hk hnk=>ih k hk hnk λy hy=>hf y (by rw[U.flat_eq];exact mem_cons_of_mem _ (il hk hy))]
   rw[U.wth_eq,if_neg hj]
structure Dd where
 act:Int
 item:Int
 day:Int
 it:Itm
def noU:U:=⟨⟨0,0,0⟩,0,[],[],[],[]⟩
def fnd (i:Idd) (u:U):U:=(U.way i u).getLastD noU
def aW (a b:Int):List (List UInt8)->Int->List Wd
 |[],_=>[]
 |s::l,m=>⟨s,a,b,m⟩::aW a b l (m+1)
mutual
def U.stamp (a b:Int):U->Int->Int->U×Int×Int
 |⟨_,k,l,h,w,ks⟩,n,m=>
  (⟨⟨a,b,n⟩,k,l,aW a b (h.map Wd.text) m,aW a b (w.map Wd.text) (m+h.length),(U.stamps a b ks (n+1) (m+h.length+w.length)).1⟩,(U.stamps a b ks (n+1) (m+h.length+w.length)).2)
def U.stamps (a b:Int):List U->Int->Int->List U×Int×Int
 |[],n,m=>([],n,m)
 |u::us,n,m=>((U.stamp a b u n m).1::(U.stamps a b us (U.stamp a b u n m).2.1 (U.stamp a b u n m).2.2).1,(U.stamps a b us (U.stamp a b u n m).2.1 (U.stamp a b u n m).2.2).2)
end
def cI (u:U) (a b:Int):U:=(U.stamp a b u 1 0).1
def bL (l:List U) (k:Nat) (x:U):List U:=l.take k++x::l.drop k
def cx (l:List U) (k:Nat):List U:=l.take k++l.drop (k+1)
def gG (l:List U) (k:Int) (s:List UInt8):Bool:=l.any λx=>decide (x.kind=k)&&decide (x.label=s)
def d9 (p:U) (l:List U) (x:U):Int:=if bt p.kind x.kind=false then 9 else if gG l x.kind x.label then 10 else 0
/-! ### the program -/
def spot (u:U) (i:Idd) (wh:Int):Option (Idd×Nat):=
 if wh=0 then some (i,0)else if wh=1 then some (i,(fnd i u).kids.length)else (aM i u).map λq=>(q.1.id,if wh=2 then q.2.2+1 else q.2.2)
def insP (u:U) (i:Idd) (d:Dd):U×Int:=match spot u i d.it.wh with
 |none=>(u,9)
 |some (q,k)=>
  if d9 (fnd q u) (fnd q u).kids (cI d.it.unit d.act d.item)≠0 then (u,d9 (fnd q u) (fnd q u).kids (cI d.it.unit d.act d.item))
  else if 64<=(fnd q u).kids.length\/8<(U.way q u).length+(cI d.it.unit d.act d.item).dep\/1024<u.cnt+(cI d.it.unit d.act d.item).cnt then (u,6)
  else if (cI d.it.unit d.act d.item).ids.any (λy=>decide (y∈u.ids))then (u,5)
  else (U.wth q (λy=>{y with kids:=bL y.kids k (cI d.it.unit d.act d.item)}) u,0)
/-! ### the document -/
def parR (i:Idd) (u:U):U×Nat×Nat:=(U.par i u).getD (noU,0,0)
theorem aQ {i:Idd} {u y:U} (h:(U.way i u).getLast?=some y):fnd i u=y:=by unfold fnd;rw[getLastD_eq_getLast?,h];rfl
theorem fj {i:Idd} (u:U) (hn:u.ids.Nodup) (hi:i∈u.ids):(fnd i u).id=i/\(U.way i u).getLast?=some (fnd i u):=by
 refine U.wayInd (i:=i) (p:=λu=>(fnd i u).id=i/\(U.way i u).getLast?=some (fnd i u)) ?_ ?_ u hn hi
 ·intro u _ h
  have:fnd i u=u:=aQ (by rw[aV h];rfl)
  rw[this]
  exact⟨h,by rw[aV h];rfl⟩
 ·intro u a k b _ h s ih
  have:(U.way i u).getLast?=some (fnd i k):=by rw[s.way h,getLast?_cons,ih.2];rfl
  rw[aQ this]
  exact⟨ih.1,this⟩
theorem cg {i:Idd} {u:U} (hn:u.ids.Nodup) (hi:i∈u.ids) (hne:u.id≠i):∃p d j,aM i u=some (p,d,j)/\parR i u=(p,d,j)/\Par i u p d j:=by
 have:∃q,aM i u=some q:=by
  rw[U.ids_eq,mem_cons]at hi
  obtain⟨a,k,b,s⟩:=eU (U.nd_kids hn).1 (hi.resolve_left (Ne.symm hne))
  have hl:U.way i k≠[]:=cE.2 s.mem
  unfold aM
  rw[s.way hne]
  cases hr:(U.way i k).reverse with
  |nil=>exact absurd (by simpa using hr) hl
  |cons x l=>
   rw[reverse_cons,hr]
   cases l<;>simp
 obtain⟨⟨p,d,j⟩,e⟩:=this
 exact⟨p,d,j,e,by unfold parR;rw[par_way u hn hi,e];rfl,er u hn hi e⟩
theorem Par.fnd {i:Idd} {u p:U} {d j:Nat} (h:Par i u p d j):fnd p.id u=p:=aQ h.last
theorem gx {i:Idd} {u:U} (hi:i∈u.ids):1<=(U.way i u).length:=by
 have:=cE.2 hi
 cases h:U.way i u with
 |nil=>exact absurd h this
 |cons _ _=>simp
end Go.Av
