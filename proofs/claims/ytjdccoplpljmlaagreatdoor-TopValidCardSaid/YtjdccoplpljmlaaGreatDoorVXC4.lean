/-
  THE TRANSLATED CODE. Printed by mkcode2.py.
-/
import Derived.Test.YtjdccoplpljmlaaGreatDoorVXDattoXC1
import Derived.Test.YtjdccoplpljmlaaGreatDoorVXAv26toXGlob
import Derived.Test.YtjdccoplpljmlaaGreatDoorProg
namespace Go.Av
open Go List
set_option linter.unusedSimpArgs false
set_option linter.unusedVariables false
abbrev Zc3:SOper:=qa 11 (.buildS 29 8 1 zU [(0,.t 10)])
abbrev Zc0:DT:=.step (Q3 12 278 8 9 11) (.step (Qc 13 4) (.step (Qa 14 7 13) (.step (QS 1 14 12) .done)))
abbrev Zc16:DT:=.step Zc3 Zc0
abbrev Zc1:List AV:=[.int .i64 0,.int .i64 0,.int .i64 0,.int .i64 0]
abbrev Zc15:List SOper:=[Qb 2 8 0,Qb 3 3 1,qa 4 (.alloc 342 Zc1),Qi 5 0]
abbrev Zc14:DT:=.step (QS 4 15 68) (.step (Qm 16 69) .done)
abbrev Zc13:SOper:=Qu 10 .add 9 1
abbrev Zc12:SOper:=qa 15 (.alloc 342 Zc1)
abbrev Zc11:SOper:=qa 43 (.raw (.slice 26 (.tmp 40) none (some (.tmp 41)) (some (.tmp 42))))
abbrev Zc10:DT:=.both (.step (Qo 8 7) Zc16) (.step Zc3 (.step (Qo 8 7) Zc0))
abbrev Zc9:DT:=.both (.step (Qo 9 1) Zc16) (.step Zc3 (.step (Qo 9 1) Zc0))
abbrev Zc8:DT:=.step (Qm 5 71) (.step (Qi 6 0) .done)
abbrev Zc7:SOper:=qa 64 (.raw (.index 377 (.tmp 62) (.tmp 63)))
abbrev Zc6:DT:=.step (qa 52 (.raw (.call (.mk (.builtin .append) #[.tmp 43,.tmp 51] #[26,26])))) (.step (qa 54 (.raw (.call (.mk (.builtin .append) #[.tmp 52,.tmp 53] #[26,26])))) (.step (Qm 14 54) .done))
abbrev Zc5:DT:=.step (qa 67 (.call (.t 64) [.t 65,.t 66])) (.step (Qm 61 67) (.step (Qe 68 0 61) (.step (Qe 69 1 61) Zc14)))
abbrev Zc4:List AV:=[.int .i64 0,.int .i64 0,.int .i64 0]
abbrev Zc2:DT:=.step (Q3 11 334 7 8 10) (.step (Qc 12 3) (.step (Qa 13 7 12) (.step (QS 1 13 11) .done)))
def r111:RL:=[(4,some (true,8)),(5,none)]
def s111:SCode:=qR [Qb 2 8 0,Qb 3 3 1,QU 4 29,Qf 5] [2,3,4] (qR [Ql 7 8 2,Ql 8 3 3,Q2 9 144 7 8,Qm 6 9] [4,6] (qs (qR [Qm 10 6,Qn 11 10,Qu 12 .eql 11 0] [4,6,12] (.cond (.t 12) (qR [QA 13,QS 8 4 13,Qf 5] [4,5] .ret) .skip)) (qR [Qm 14 6,Qm 15 6,Qn 16 15,Qu 17 .sub 16 1,Qx 18 8 14 17,Ql 19 8 18,Q1 20 145 19,QS 8 4 20,Qt 5] [4,5] .ret)))
theorem c111:FB 111 [2000002,2000003]=some (r111,s111):=by kernel_rfl
def r144:RL:=[(4,none)]
def s144:SCode:=qR [Qb 2 8 0,Qb 3 3 1,Qz 4] [2,3] (qs (qR [Qa 8 0 2,Ql 9 3 8,Ql 10 3 3,qa 11 (.eqs false [1,1,1] (.t 9) (.t 10))] [2,3,11] (.cond (.t 11) (qR [Ql 12 8 2,qa 13 (.buildS 29 8 1 zU [(0,.t 12)]),Qm 4 13] [4] .ret) .skip)) (qs (qR [Qa 14 7 2,Qo 15 14,Qn 16 15,Qi 17 0] [2,3,15,16,17] (qs (.block 0 (.loop (qR [Qv 18 .lss 17 16] [2,3,15,16,17,18] (qs (qX 18) (qs (qs (.block 1 (qR [Qx 19 8 15 17,Ql 20 8 19,QU 6 29,QS 8 6 20] [2,3,6,15,16,17] (qR [Ql 21 8 6,Ql 22 3 3,Q2 23 144 21 22,Qm 7 23] [2,3,7,15,16,17] (qR [Qm 24 7,qa 25 (.eqnil 0 true (.t 24))] [2,3,7,15,16,17,25] (.cond (.t 25) (qR [Ql 26 8 2,qa 27 (.buildS 29 8 1 zU [(0,.t 26)]),Qm 28 7,Qw 29 29 8 120 27 28,Qm 4 29] [4] .ret) .skip))))) (qr [] [2,3,15,16,17])) (qr [Qu 30 .add 17 1,Qm 17 30] [2,3,15,16,17])))))) (qr [] []))) (qR [Qz 4] [4] .ret)))
theorem c144:FB 144 [2000002,2000003]=some (r144,s144):=by kernel_rfl
def r231:RL:=[(6,some (true,8)),(7,none)]
def s231:SCode:=qR [Qb 3 8 0,Qb 4 8 1,Qb 5 28 2,QU 6 29,Qi 7 0] [3,4,6] (qR [Ql 8 8 3,Qa 9 0 4,Ql 10 3 9,Q2 11 279 8 10,QS 8 6 11,Qi 7 0] [6,7] .ret)
theorem c231:FB 231 [2000003,2000004,2000005]=some (r231,s231):=by kernel_rfl
def r234:RL:=[(6,some (true,8)),(7,none)]
def s234:SCode:=qR [Qb 3 8 0,Qb 4 8 1,Qb 5 28 2,QU 6 29,Qi 7 0] [3,4,5,6] (qR [Qa 9 3 5,Qa 10 14 9,Qo 11 10,Qa 12 0 5,Qo 13 12,Qa 14 1 5,Qo 15 14,qa 16 (.call (.f 284) [.t 11,.t 13,.t 15,qi 0]),qa 8 (.alloc 26 [.nil]),QS 1 8 16] [3,4,6,8] (qR [Ql 17 8 3,Qa 18 0 4,Ql 19 3 18,qa 20 (.mkfun (.func 285) [] [.t 8]),Q3 21 276 17 19 20,QS 8 6 21,Qi 7 0] [6,7] .ret))
theorem c234:FB 234 [2000003,2000004,2000005]=some (r234,s234):=by kernel_rfl
def r237:RL:=[(4,none)]
def s237:SCode:=qR [Qb 2 8 0,Qz 4] [1,2] (qR [Qz 5] [1,2,5] (qs (qR [Ql 8 8 2,Qm 9 1,Q2 10 289 8 9,Qn 11 10,Qi 12 0] [5,10,11,12] (qs (.block 0 (.loop (qR [Qv 13 .lss 12 11] [5,10,11,12,13] (qs (qX 13) (qs (qs (.block 1 (qR [Qx 14 8 10 12,Ql 15 8 14,QU 7 29,QS 8 7 15] [5,7,10,11,12] (qr [Qm 16 5,Qa 17 0 7,Ql 18 3 17,qa 19 (.buildS 25 3 1 Zc4 [(0,.t 18)]),Qw 20 25 3 24 16 19,Qm 5 20] [5,10,11,12]))) (qr [] [5,10,11,12])) (qr [Qu 21 .add 12 1,Qm 12 21] [5,10,11,12])))))) (qr [] [5]))) (qR [Qm 22 5,Qm 4 22] [4] .ret)))
theorem c237:FB 237 [2000002]=some (r237,s237):=by kernel_rfl
def r270:RL:=[(4,some (true,3)),(5,none),(6,none)]
def s270:SCode:=qR [Qb 2 8 0,Qb 3 25 1,qa 4 (.alloc 25 Zc4),Qi 5 0,Qi 6 0] [2,3,4] (qs (qR [Qa 11 0 3,Qo 12 11,Qu 13 .eql 12 0] [2,3,4,13] (.cond (.t 13) (qR [Ql 14 8 2,Qa 15 1 3,Qo 16 15,Qa 17 3 3,Qo 18 17,Q3 19 322 14 16 18,Qe 20 0 19,Qe 21 1 19,Qe 22 2 19,QS 3 4 20,Qm 5 21,Qm 6 22] [4,5,6] .ret) .skip)) (qs (qR [Qa 23 0 3,Qo 24 23,Qu 25 .neq 24 6,Qm 26 25,qc 27 26 (fa 3 3),qc 28 26 (lo 27),qc 29 26 (.call (.f 323) [.t 28]),qc 30 26 (.not (.t 29)),Qq 31 26 30] [2,3,4,31] (.cond (.t 31) (qR [qa 32 (.build Zc4 []),QS 3 4 32,Qi 5 0,Qi 6 1] [4,5,6] .ret) .skip)) (qR [Ql 34 8 2,Qa 35 1 3,Qo 36 35,Q2 37 185 34 36,Qm 33 37,Qe 38 0 33,Qe 39 1 33,qa 7 (.alloc 25 Zc4),QS 3 7 38,Qm 8 39] [2,3,4,7,8] (qs (qR [Qm 40 8,Qu 41 .neq 40 0] [2,3,4,7,8,41] (.cond (.t 41) (qR [qa 42 (.build Zc4 []),Qm 43 8,QS 3 4 42,Qi 5 0,Qm 6 43] [4,5,6] .ret) .skip)) (qR [Ql 45 8 2,Qa 46 2 3,Qo 47 46,Q2 48 185 45 47,Qm 44 48,Qe 49 0 44,Qe 50 1 44,qa 9 (.alloc 25 Zc4),QS 3 9 49,Qm 8 50] [2,3,4,7,8,9] (qs (qR [Qm 51 8,Qu 52 .neq 51 0] [2,3,4,7,8,9,52] (.cond (.t 52) (qR [qa 53 (.build Zc4 []),Qm 54 8,QS 3 4 53,Qi 5 0,Qm 6 54] [4,5,6] .ret) .skip)) (qR [Ql 56 8 2,Ql 57 3 7,Ql 58 3 9,Qa 59 3 3,Qo 60 59,Q4 61 324 56 57 58 60,Qm 55 61,Qe 62 0 55,Qe 63 1 55,qa 10 (.alloc 342 Zc1),QS 4 10 62,Qm 8 63] [4,8,10] (qs (qR [Qm 64 8,Qu 65 .neq 64 0] [4,8,10,65] (.cond (.t 65) (qR [qa 66 (.build Zc4 []),Qm 67 8,QS 3 4 66,Qi 5 0,Qm 6 67] [4,5,6] .ret) .skip)) (qs (.drawT (.step (Qa 68 0 10) (.step (Qa 70 3 10) (.both (.step (Ql 69 3 68) (.both (.step (Qo 71 70) (.step (QS 3 4 69) Zc8)) (.step (QS 3 4 69) (.step (Qo 71 70) Zc8)))) (.step (Qo 71 70) (.step (Ql 69 3 68) (.step (QS 3 4 69) Zc8)))))) [4,5,6]) .ret)))))))))
theorem c270:FB 270 [2000002,2000003]=some (r270,s270):=by kernel_rfl
def r273:RL:=[(6,none)]
def s273:SCode:=qR [Qb 3 8 0,Qb 4 3 1,Qb 5 8 2,Qf 6] [3,4,5] (qs (.drawL [Qs 7 8 3,Qs 8 3 4,Qs 12 8 5,Q2 9 328 7 8,Qn 10 9,Qu 11 .add 10 1,Q1 13 38 12,Qv 14 .add 11 13,Qu 15 .gtr 14 8,Qm 6 15] [6]) .ret)
theorem c273:FB 273 [2000003,2000004,2000005]=some (r273,s273):=by kernel_rfl
def r276:RL:=[(6,some (true,8))]
def s276:SCode:=qR [QB 3 29 8 0,Qb 4 3 1,QU 6 29] [2,3,4,6] (qs (qR [Qa 12 0 3,Ql 13 3 12,Ql 14 3 4,qa 15 (.eqs false [1,1,1] (.t 13) (.t 14))] [2,3,4,6,15] (.cond (.t 15) (qR [Qa 16 7 3,Qo 17 16,Q1 18 330 17,Qa 19 7 3,QS 1 19 18] [2,3,6] (qR [Qm 20 2,qa 21 (.call (.t 20) [.t 3])] [3,6] (qR [Ql 22 8 3,QS 8 6 22] [6] .ret))) .skip)) (qR [Qa 23 7 3,Qo 24 23,Q1 25 330 24,Qm 7 25] [2,3,4,6,7] (qs (qR [Qm 26 7,Qn 27 26,Qi 28 0] [2,3,4,6,7,26,27,28] (qs (.block 0 (.loop (qR [Qv 29 .lss 28 27] [2,3,4,6,7,26,27,28,29] (qs (qX 29) (qs (qs (.block 1 (qR [Qm 30 28,Qx 31 8 26 28,Ql 32 8 31,QU 9 29,Qm 8 30,QS 8 9 32] [2,3,4,6,7,8,9,26,27,28] (qR [Ql 34 8 9,Ql 35 3 4,Q2 36 111 34 35,Qm 33 36,Qe 37 0 33,Qe 38 1 33,QU 10 29,QS 8 10 37,Qm 11 38] [2,3,4,6,7,8,9,11,26,27,28] (qR [Qm 39 11] [2,3,4,6,7,8,9,26,27,28,39] (.cond (.t 39) (qR [Qm 40 7,Qm 41 8,Ql 42 8 9,Ql 43 3 4,Qm 44 2,Q3 45 276 42 43 44,Qx 46 8 40 41,QS 8 46 45] [3,6,7] (.exit 0)) .skip))))) (qr [] [2,3,4,6,7,26,27,28])) (qr [Qu 47 .add 28 1,Qm 28 47] [2,3,4,6,7,26,27,28])))))) (qr [] [3,6,7]))) (qR [Qm 48 7,Qa 49 7 3,QS 1 49 48] [3,6] (qR [Ql 50 8 3,QS 8 6 50] [6] .ret)))))
theorem c276:FB 276 [2000004]=some (r276,s276):=by kernel_rfl
def r279:RL:=[(4,some (true,8))]
def s279:SCode:=qR [Qb 2 8 0,Qb 3 3 1,QU 4 29] [2,3,4] (qR [Ql 9 8 2,Ql 10 3 3,Q2 11 286 9 10,Qm 8 11,Qe 12 0 8,Qe 13 1 8,Qe 14 2 8,qa 5 (.alloc 25 Zc4),qa 6 (.alloc 3 [.int .i64 0]),QS 3 5 12,QS 1 6 13,Qm 7 14] [2,4,5,6] (qR [Ql 15 8 2,Ql 16 3 5,qa 17 (.mkfun (.func 333) [] [.t 6]),Q3 18 276 15 16 17,QS 8 4 18] [4] .ret))
theorem c279:FB 279 [2000002,2000003]=some (r279,s279):=by kernel_rfl
def r282:RL:=[(12,none),(13,none)]
def s282:SCode:=qR [Qz 12,Qi 13 0] [0,1,2,3,4,5] (qs (qR [Qm 16 2,Qn 17 16,Qu 18 .eql 17 0,Qm 19 18,Ym 20 19 3,qc 21 19 (.bin .lss (.t 20) (qi 0)),Qq 22 19 21,Qm 23 22,Ym 24 23 1,qc 25 23 (.len (.t 24)),qc 26 23 (.bin .eql (.t 25) (qi 0)),Ym 27 23 26,Bm 28 27 3,qb 29 27 (.bin .neq (.t 28) (qi 0)),qc 30 23 (.pick (.t 27) (.t 29) qf),Qq 31 23 30] [0,1,2,3,4,5,31] (.cond (.t 31) (qR [Qz 12,Qi 13 1] [12,13] .ret) .skip)) (qs (qR [Qm 32 1,Qn 33 32,Qu 34 .eql 33 0] [0,1,2,3,4,5,34] (.cond (.t 34) (qR [Qm 35 0,qa 36 (.buildS 3 1 1 [.int .i64 0] [(0,qi 0)]),Qm 37 2,Qm 38 4,Qm 39 5,qa 40 (.call (.f 336) [.t 35,.t 36,qi 0,.t 37,.t 38,.t 39]),Qe 41 0 40,Qe 42 1 40,Qm 12 41,Qm 13 42] [12,13] .ret) .skip)) (qR [Qm 43 0,Qm 44 1,Qm 45 3,Q3 46 335 43 44 45,Q1 47 337 46,Qm 14 47] [0,1,2,4,5,14] (qs (qR [Qm 48 14,Qn 49 48,Qu 50 .eql 49 0] [0,1,2,4,5,14,50] (.cond (.t 50) (qR [Qz 12,Qi 13 4] [12,13] .ret) .skip)) (qs (qR [Qm 51 14,Qn 52 51,Qi 53 0] [0,1,2,4,5,14,52,53] (qs (.block 0 (.loop (qs (.ghost [Qv 54 .lss 53 52] [0,1,2,4,5,14,52,53,54]) (qs (qX 54) (qs (qs (.block 1 (qR [Qm 55 53,Qm 15 55] [0,1,2,4,5,14,15,52,53] (qr [Qm 56 14,Qm 57 15,Qx 58 1 56 57,Qo 59 58,Qm 60 1,Qn 61 60,Qv 62 .add 59 61,Qx 63 1 56 57,QS 1 63 62] [0,1,2,4,5,14,52,53]))) (qr [] [0,1,2,4,5,14,52,53])) (qr [Qu 64 .add 53 1,Qm 53 64] [0,1,2,4,5,14,52,53])))))) (qr [] [0,2,4,5,14]))) (qR [Qm 65 0,Qm 66 14,Qm 67 2,Qm 68 4,Qm 69 5,qa 70 (.call (.f 336) [.t 65,.t 66,qi 0,.t 67,.t 68,.t 69]),Qe 71 0 70,Qe 72 1 70,Qm 12 71,Qm 13 72] [12,13] .ret))))))
theorem c282:FB 282 [9]=some (r282,s282):=by kernel_rfl
def r285:RL:=[]
def s285:SCode:=qr [Qm 3 0,Qo 4 1,Qc 5 3,Qa 6 5 5,QS 1 6 4] []
theorem c285:FB 285 []=some (r285,s285):=by kernel_rfl
def r288:RL:=[]
def s288:SCode:=.drawT (.step (Qm 4 0) (.step (Qm 5 0) (.step (Qc 6 5) (.step (Qa 7 7 6) (.both (.step (Qo 8 7) (.both (.step (Qo 9 1) (.step (Ql 10 8 2) Zc16)) (.step (Ql 10 8 2) Zc9))) (.both (.step (Qo 9 1) (.both (.step (Qo 8 7) (.step (Ql 10 8 2) Zc16)) (.step (Ql 10 8 2) Zc10))) (.step (Ql 10 8 2) (.both (.step (Qo 8 7) Zc9) (.both (.step (Qo 9 1) Zc10) (.step Zc3 (.both (.step (Qo 8 7) (.step (Qo 9 1) Zc0)) (.step (Qo 9 1) (.step (Qo 8 7) Zc0))))))))))))) []
theorem c288:FB 288 []=some (r288,s288):=by kernel_rfl
def r324:RL:=[(8,some (true,4)),(9,none)]
def s324:SCode:=qR [Qb 4 8 0,Qb 5 3 1,Qb 6 3 2,qa 8 (.alloc 342 Zc1),Qi 9 0] [3,4,5,6,8] (qR [Qm 17 3,Qu 18 .eql 17 2,Qm 19 18,Ym 20 19 3,qc 21 19 (.bin .eql (.t 20) (qi 3)),Qq 22 19 21,Qm 10 22] [3,4,5,6,8,10] (qR [Ql 24 8 4,Ql 25 3 5,Q2 26 286 24 25,Qm 23 26,Qe 27 0 23,Qe 28 1 23,Qe 29 2 23,qa 11 (.alloc 25 Zc4),QS 3 11 27,Qm 12 28,Qm 13 29] [3,4,5,6,8,10,11,12,13] (qs (.drawL [Qs 30 3 6,Qs 31 3 5,qa 32 (.eqs true [1,1,1] (.t 30) (.t 31)),Qm 33 32,qb 34 33 (.loadF true 8 (.t 4)),qb 35 33 (.loadF true 3 (.t 6)),qb 37 33 (.loadF true 3 (.t 5)),qb 36 33 (.call (.f 328) [.t 34,.t 35]),qb 38 33 (.call (.f 109) [.t 36,.t 37]),Qp 39 33 38,Qm 14 39] [3,4,5,6,8,10,11,12,13,14]) (qs (qR [Qm 40 13,Qr 41 40,Qm 42 41,Ym 43 42 14,Qq 44 42 43,Qm 45 44,qc 46 45 (lm 3 6),qc 47 45 (lm 3 5),qc 48 45 (.eqs false [1,1,1] (.t 46) (.t 47)),Ym 49 45 48,Bm 50 49 10,qb 51 49 (.not (.t 50)),qc 52 45 (.pick (.t 49) (.t 51) qf),Qq 53 45 52] [3,4,5,6,8,11,12,53] (.cond (.t 53) (qR [qa 54 (.build Zc1 []),QS 4 8 54,Qi 9 9] [8,9] .ret) .skip)) (qs (qR [Ql 55 3 6,Ql 56 3 5,qa 57 (.eqs false [1,1,1] (.t 55) (.t 56))] [3,4,6,8,11,12,57] (.cond (.t 57) (qR [Ql 58 3 11,Qm 59 12,qa 60 (.build Zc1 [(0,(3,.t 58)),(3,(1,.t 59))]),QS 4 8 60,Qi 9 0] [8,9] .ret) .skip)) (qs (.drawT (.step (Qm 63 3) (.step (Qs 65 8 4) (.step (Qs 66 3 6) (.both (.step (Q0 62 363) (.both (.step Zc7 (.both (.step (qa 67 (.call (.t 64) [.t 65,.t 66])) (.step (Qm 61 67) (.step (Qe 68 0 61) (.step (Qe 69 1 61) (.step Zc12 Zc14))))) (.step Zc12 Zc5))) (.step Zc12 (.step Zc7 Zc5)))) (.step Zc12 (.step (Q0 62 363) (.step Zc7 Zc5))))))) [8,11,12,15,16]) (qs (qR [Qm 70 16,Qu 71 .eql 70 0,Qm 72 71,qb 73 72 (fa 0 15),qb 74 72 (lm 3 73),qb 75 72 (lm 3 11),qb 76 72 (.eqs false [1,1,1] (.t 74) (.t 75)),Qp 77 72 76,Qm 78 77,Bm 79 78 12,qb 80 78 (fa 3 15),qb 81 78 (lo 80),qb 82 78 (.bin .lss (.t 79) (.t 81)),Qp 83 78 82] [8,15,16,83] (.cond (.t 83) (qr [Qa 84 3 15,Qo 85 84,Qu 86 .sub 85 1,Qa 87 3 15,QS 1 87 86] [8,15,16]) .skip)) (qR [Ql 88 4 15,Qm 89 16,QS 4 8 88,Qm 9 89] [8,9] .ret))))))))
theorem c324:FB 324 [2000004,2000005,2000006]=some (r324,s324):=by kernel_rfl
def r327:RL:=[(3,none)]
def s327:SCode:=qR [Qb 2 8 0,Qf 3] [1,2] (qR [Qa 4 3 2,Qo 5 4,Qa 6 3 1,Qo 7 6,Qv 8 .eql 5 7,Qm 9 8,qb 10 9 (fa 4 2),qb 11 9 (lo 10),qb 12 9 (fa 4 1),qb 13 9 (lo 12),qb 14 9 (.bin .eql (.t 11) (.t 13)),Qp 15 9 14,Qm 3 15] [3] .ret)
theorem c327:FB 327 [2000002]=some (r327,s327):=by kernel_rfl
def r330:RL:=[(2,none)]
def s330:SCode:=qR [Qz 2] [0] (qs (qR [Qm 3 0,qa 4 (.eqnil 0 false (.t 3))] [0,4] (.cond (.t 4) (qR [Qz 2] [2] .ret) .skip)) (qR [qa 5 (.raw (.buildSlice 27 0 #[])),Qm 6 0,qa 7 (.raw (.call (.mk (.builtin .append) #[.tmp 5,.tmp 6] #[27,27]))),Qm 2 7] [2] .ret))
theorem c330:FB 330 [3000005,3000007]=some (r330,s330):=by kernel_rfl
def r333:RL:=[]
def s333:SCode:=.drawT (.step (Qm 3 0) (.step (Qm 4 0) (.step (Qc 5 4) (.step (Qa 6 7 5) (.both (.step (Qo 7 6) (.both (.step (Qo 8 1) (.step (Qo 9 1) (.step Zc13 Zc2))) (.step (Qo 9 1) (.step Zc13 (.step (Qo 8 1) Zc2))))) (.both (.step (Qo 8 1) (.both (.step (Qo 7 6) (.step (Qo 9 1) (.step Zc13 Zc2))) (.step (Qo 9 1) (.step Zc13 (.step (Qo 7 6) Zc2))))) (.step (Qo 9 1) (.step Zc13 (.both (.step (Qo 7 6) (.step (Qo 8 1) Zc2)) (.step (Qo 8 1) (.step (Qo 7 6) Zc2))))))))))) []
theorem c333:FB 333 []=some (r333,s333):=by kernel_rfl
def r336:RL:=[(12,none),(13,none)]
def s336:SCode:=qR [Qz 12,Qi 13 0] [0,1,2,3,4,5] (qR [Qm 18 0,Qn 19 18,qa 20 (.raw (.makeSlice 26 (.tmp 19) (.tmp 19))),Qm 14 20] [0,1,2,3,4,5,14] (qR [Qm 21 14,Qm 22 0,qa 23 (.raw (.call (.mk (.builtin .copy) #[.tmp 21,.tmp 22] #[26,26])))] [1,2,3,4,5,14] (qs (qR [Qm 24 1,Qn 25 24,Qu 26 .sub 25 1,Qm 15 26] [1,2,3,4,5,14,15] (qs (.block 0 (.loop (qs (qR [Qm 27 15,Qu 28 .geq 27 0] [1,2,3,4,5,14,15,28] (qX 28)) (qs (qs (.block 1 (qR [Qm 31 1,Qm 32 15,Qx 33 1 31 32,Qo 34 33,Qm 16 34] [1,2,3,4,5,14,15,16] (qR [Qm 35 14,Qm 36 16,Qm 37 2,Qv 38 .add 36 37,qa 39 (.raw (.slice 26 (.tmp 35) (some (.tmp 38)) none none)),Qm 17 39] [1,2,3,4,5,14,15,16,17] (.drawT (.step (Qm 40 14) (.step (Qm 41 16) (.step (Qm 42 16) (.step (Qm 44 3) (.step (Qm 45 4) (.step (Qm 46 5) (.step (Qm 47 15) (.step (Qm 48 3) (.step (Qn 49 48) (.step (Qv 50 .mul 47 49) (.step (Qm 53 17) (.both (.step Zc11 (.step (Q4 51 284 44 45 46 50) Zc6)) (.step (Q4 51 284 44 45 46 50) (.step Zc11 Zc6)))))))))))))) [1,2,3,4,5,14,15])))) (qr [] [1,2,3,4,5,14,15])) (qr [Qm 29 15,Qu 30 .sub 29 1,Qm 15 30] [1,2,3,4,5,14,15]))))) (qr [] [14]))) (qs (qR [Qm 55 14,Qn 56 55,Qu 57 .gtr 56 256] [14,57] (.cond (.t 57) (qR [Qz 12,Qi 13 6] [12,13] .ret) .skip)) (qR [Qm 58 14,Qm 12 58,Qi 13 0] [12,13] .ret)))))
theorem c336:FB 336 [3000039,3000052,3000054]=some (r336,s336):=by kernel_rfl
def r339:RL:=[(3,none)]
def s339:SCode:=qR [Qb 2 8 0,Qf 3] [1,2] (qR [Ql 4 8 2,Ql 5 3 1,Q2 6 144 4 5,qa 7 (.eqnil 0 true (.t 6)),Qm 3 7] [3] .ret)
theorem c339:FB 339 [2000002]=some (r339,s339):=by kernel_rfl
def r342:RL:=[(4,none)]
def s342:SCode:=qR [Qb 2 8 0,Qb 3 2 1,Qf 4] [2,3] (qR [Qa 5 3 2,Qo 6 5,Qa 7 0 3,Qo 8 7,Qv 9 .eql 6 8,Qm 10 9,qb 11 10 (fa 4 2),qb 12 10 (lo 11),qb 13 10 (fa 1 3),qb 14 10 (lo 13),qb 15 10 (.bin .eql (.t 12) (.t 14)),Qp 16 10 15,Qm 4 16] [4] .ret)
theorem c342:FB 342 [2000002,2000003]=some (r342,s342):=by kernel_rfl
def r363:RL:=[(0,some (true,4))]
def s363:SCode:=qR [qa 0 (.alloc 377 [.sc .nilFunc,.sc .nilFunc,.sc .nilFunc,.sc .nilFunc])] [0] (qR [qa 1 (.raw (.build 377 #[(0,.func 378),(1,.func 381),(2,.func 383),(3,.func 385)])),QS 4 0 1] [0] .ret)
theorem c363:FB 363 []=some (r363,s363):=by kernel_rfl
def r366:RL:=[(2,none)]
def s366:SCode:=qR [Qz 2] [0] (qR [Qz 3] [0,3] (qs (qR [Qm 6 0,Qn 7 6,Qi 8 0] [3,6,7,8] (qs (.block 0 (.loop (qR [Qv 9 .lss 8 7] [3,6,7,8,9] (qs (qX 9) (qs (qs (.block 1 (qR [Qx 10 4 6 8,Ql 11 4 10,qa 5 (.alloc 88 [.str [],.int .i64 0,.int .i64 0,.int .i64 0]),QS 4 5 11] [3,5,6,7,8] (qr [Qm 12 3,Qa 13 0 5,Qo 14 13,qa 15 (.buildS 9 1 1 [.str []] [(0,.t 14)]),Qw 16 9 1 16 12 15,Qm 3 16] [3,6,7,8]))) (qr [] [3,6,7,8])) (qr [Qu 17 .add 8 1,Qm 8 17] [3,6,7,8])))))) (qr [] [3]))) (qR [Qm 18 3,Qm 2 18] [2] .ret)))
theorem c366:FB 366 []=some (r366,s366):=by kernel_rfl
def r378:RL:=[(4,some (true,4)),(5,none)]
def s378:SCode:=qR Zc15 [2,3,4] (qR [Ql 6 8 2,Ql 7 3 3,qa 8 (.call (.f 379) [.t 6,.t 7,.f 380]),Qe 9 0 8,Qe 10 1 8,QS 4 4 9,Qm 5 10] [4,5] .ret)
theorem c378:FB 378 [2000002,2000003]=some (r378,s378):=by kernel_rfl
def r381:RL:=[(4,some (true,4)),(5,none)]
def s381:SCode:=qR Zc15 [2,3,4] (qR [Ql 6 8 2,Ql 7 3 3,qa 8 (.call (.f 379) [.t 6,.t 7,.f 382]),Qe 9 0 8,Qe 10 1 8,QS 4 4 9,Qm 5 10] [4,5] .ret)
theorem c381:FB 381 [2000002,2000003]=some (r381,s381):=by kernel_rfl
def r384:RL:=[(6,some (true,4)),(7,none)]
def s384:SCode:=qR [Qb 3 8 0,Qb 4 3 1,qa 6 (.alloc 342 Zc1),Qi 7 0] [2,3,4,6] (qR [Ql 12 8 3,Ql 13 3 4,Q2 14 286 12 13,Qm 11 14,Qe 15 0 11,Qe 16 1 11,Qe 17 2 11,qa 8 (.alloc 25 Zc4),QS 3 8 15,Qm 9 16,Qm 10 17] [2,6,8,9,10] (qs (qR [Qm 18 10,Qr 19 18] [2,6,8,9,19] (.cond (.t 19) (qR [qa 20 (.build Zc1 []),QS 4 6 20,Qi 7 9] [6,7] .ret) .skip)) (qR [Ql 21 3 8,Qm 22 9,Qm 23 2,Qv 24 .add 22 23,qa 25 (.build Zc1 [(0,(3,.t 21)),(3,(1,.t 24))]),QS 4 6 25,Qi 7 0] [6,7] .ret)))
theorem c384:FB 384 [2000003,2000004]=some (r384,s384):=by kernel_rfl
end Go.Av
