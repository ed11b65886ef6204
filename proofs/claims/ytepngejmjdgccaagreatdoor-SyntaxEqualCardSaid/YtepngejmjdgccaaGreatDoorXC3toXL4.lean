/-
  THE TRANSLATED CODE. Printed by mkcode2.py.
-/
import Derived.Test.YtepngejmjdgccaaGreatDoorXCStoXC1
import Derived.Test.YtepngejmjdgccaaGreatDoorXAv24toXOpenG
import Derived.Test.YtepngejmjdgccaaGreatDoorProg
import Derived.Test.YtepngejmjdgccaaGreatDoorXC2
namespace Go.Av
open Go
set_option linter.unusedSimpArgs false
set_option linter.unusedVariables false
def r11:RL:=[(4,none)]
def s11:SCode:=qR [Qb 2 25 0,Qb 3 25 1,Qf 4] [2,3] (qR [Qa 8 0 2,Qo 9 8,Qa 10 0 3,Qo 11 10,Qv 12 .eql 9 11,Qm 13 12,qb 14 13 (fa 3 2),qb 15 13 (lo 14),qb 16 13 (fa 3 3),qb 17 13 (lo 16),qb 18 13 (.bin .eql (.t 15) (.t 17)),Qp 19 13 18,Qm 20 19,qb 21 20 (fa 4 2),qb 22 20 (lo 21),qb 23 20 (fa 4 3),qb 24 20 (lo 23),qb 25 20 (.bin .eql (.t 22) (.t 24)),Qp 26 20 25,Qm 27 26,qb 28 27 (fa 20 2),qb 29 27 (lo 28),qb 30 27 (fa 20 3),qb 31 27 (lo 30),qb 32 27 (.bin .eql (.t 29) (.t 31)),Qp 33 27 32,Qm 34 33,qb 35 34 (fa 21 2),qb 36 34 (lo 35),qb 37 34 (fa 21 3),qb 38 34 (lo 37),qb 39 34 (.bin .eql (.t 36) (.t 38)),Qp 40 34 39,Qm 41 40,qb 42 41 (fa 22 2),qb 43 41 (lo 42),qb 44 41 (fa 22 3),qb 45 41 (lo 44),qb 46 41 (.bin .eql (.t 43) (.t 45)),Qp 47 41 46,Qm 5 47] [2,3,5] (qR [Qa 48 15 2,Qo 49 48,Qa 50 15 3,Qo 51 50,Qv 52 .eql 49 51,Qm 53 52,qb 54 53 (fa 16 2),qb 55 53 (lo 54),qb 56 53 (fa 16 3),qb 57 53 (lo 56),qb 58 53 (.bin .eql (.t 55) (.t 57)),Qp 59 53 58,Qm 60 59,qb 61 60 (fa 23 2),qb 62 60 (lo 61),qb 63 60 (fa 23 3),qb 64 60 (lo 63),qb 65 60 (.bin .eql (.t 62) (.t 64)),Qp 66 60 65,Qm 67 66,qb 68 67 (fa 17 2),qb 69 67 (lm 3 68),qb 70 67 (fa 17 3),qb 71 67 (lm 3 70),qb 72 67 (.eqs false [1,1,2] (.t 69) (.t 71)),Qp 73 67 72,Qm 6 73] [2,3,5,6] (qR [Qa 74 1 2,Qo 75 74,Qa 76 1 3,Qo 77 76,Q2 78 18 75 77,Qm 79 78,qb 80 79 (fa 2 2),qb 81 79 (lo 80),qb 82 79 (fa 2 3),qb 83 79 (lo 82),qb 84 79 (.call (.f 18) [.t 81,.t 83]),Qp 85 79 84,Qm 86 85,qb 87 86 (fa 13 2),qb 88 86 (lo 87),qb 89 86 (fa 13 3),qb 90 86 (lo 89),qb 91 86 (.call (.f 19) [.t 88,.t 90]),Qp 92 86 91,Qm 93 92,qb 94 93 (fa 14 2),qb 95 93 (lo 94),qb 96 93 (fa 14 3),qb 97 93 (lo 96),qb 98 93 (.call (.f 19) [.t 95,.t 97]),Qp 99 93 98,Qm 7 99] [2,3,5,6,7] (qR [Qm 100 5,Qm 101 100,Bm 102 101 6,Qp 103 101 102,Qm 104 103,Bm 105 104 7,Qp 106 104 105,Qm 107 106,qb 108 107 (fa 5 2),qb 109 107 (lm 8 108),qb 110 107 (fa 5 3),qb 111 107 (lm 8 110),qb 112 107 (.call (.f 20) [.t 109,.t 111]),Qp 113 107 112,Qm 114 113,qb 115 114 (fa 24 2),qb 116 114 (lo 115),qb 117 114 (fa 24 3),qb 118 114 (lo 117),qb 119 114 (.call (.f 21) [.t 116,.t 118,.f 11]),Qp 120 114 119,Qm 4 120] [4] .ret))))
theorem c11:FB 11 [2000002,2000003]=some (r11,s11):=by kernel_rfl
def r17:RL:=[(4,none)]
def s17:SCode:=qR [Qb 2 8 0,Qf 4] [1,2] (qR [Ql 5 8 2,Qm 6 1,qa 7 (.call (.f 45) [.t 5,qi 0,.t 6]),Qm 8 1,Qv 9 .leq 7 8,Qm 10 9,qb 11 10 (lm 8 2),qb 12 10 (.call (.f 46) [.t 11]),Qp 13 10 12,Qm 4 13] [4] .ret)
theorem c17:FB 17 [2000002]=some (r17,s17):=by kernel_rfl
def r20:RL:=[(4,none)]
def s20:SCode:=qR [Qb 2 8 0,Qb 3 8 1,Qf 4] [2,3] (qR [Qa 5 0 2,Ql 6 3 5,Qa 7 0 3,Ql 8 3 7,qa 9 (.eqs false [1,1,1] (.t 6) (.t 8)),Qm 10 9,qb 11 10 (fa 3 2),qb 12 10 (lo 11),qb 13 10 (fa 3 3),qb 14 10 (lo 13),qb 15 10 (.bin .eql (.t 12) (.t 14)),Qp 16 10 15,Qm 17 16,qb 18 17 (fa 4 2),qb 19 17 (lo 18),qb 20 17 (fa 4 3),qb 21 17 (lo 20),qb 22 17 (.bin .eql (.t 19) (.t 21)),Qp 23 17 22,Qm 24 23,qb 25 24 (fa 5 2),qb 26 24 (lo 25),qb 27 24 (fa 5 3),qb 28 24 (lo 27),qb 29 24 (.call (.f 47) [.t 26,.t 28]),Qp 30 24 29,Qm 31 30,qb 32 31 (fa 6 2),qb 33 31 (lo 32),qb 34 31 (fa 6 3),qb 35 31 (lo 34),qb 36 31 (.call (.f 47) [.t 33,.t 35]),Qp 37 31 36,Qm 38 37,qb 39 38 (fa 7 2),qb 40 38 (lo 39),qb 41 38 (fa 7 3),qb 42 38 (lo 41),qb 43 38 (.call (.f 48) [.t 40,.t 42,.f 20]),Qp 44 38 43,Qm 4 44] [4] .ret)
theorem c20:FB 20 [2000002,2000003]=some (r20,s20):=by kernel_rfl
def r23:RL:=[(4,none)]
def s23:SCode:=qR [Qf 4] [0,1] (qs (qR [Qm 6 0,Qn 7 6,Qm 8 1,Qn 9 8,Qv 10 .neq 7 9] [0,1,10] (.cond (.t 10) (qR [Qf 4] [4] .ret) .skip)) (qs (qR [Qi 5 0] [0,1,5] (qs (.block 0 (.loop (qs (qR [Qm 11 5,Qm 12 0,Qn 13 12,Qv 14 .lss 11 13] [0,1,5,14] (qX 14)) (qs (qs (.block 1 (qs (.draw [Qm 17 0,Qm 18 5,Qx 19 1 17 18,Qo 20 19,Qm 21 1,Qm 22 5,Qx 23 1 21 22,Qo 24 23,Qv 25 .neq 20 24] [0,1,5,25]) (.cond (.t 25) (qR [Qf 4] [4] .ret) .skip))) (qr [] [0,1,5])) (qr [Qm 15 5,Qu 16 .add 15 1,Qm 5 16] [0,1,5]))))) (qr [] []))) (qR [Qt 4] [4] .ret)))
theorem c23:FB 23 []=some (r23,s23):=by kernel_rfl
def r26:RL:=[(2,none)]
def s26:SCode:=qR [Qf 2] [0] (qs (qR [Qm 4 0,Qn 5 4,Qu 6 .gtr 5 9] [0,6] (.cond (.t 6) (qR [Qf 2] [2] .ret) .skip)) (qs (qR [Qi 3 0] [0,3] (qs (.block 0 (.loop (qs (qR [Qm 7 3,Qm 8 0,Qn 9 8,Qv 10 .lss 7 9] [0,3,10] (qX 10)) (qs (qs (.block 1 (qs (qR [Qm 13 3,Qu 14 .eql 13 0,Qm 15 14,Bm 16 15 0,Bm 17 15 3,qb 18 15 (.indexA 2 (.t 16) (.t 17)),qb 19 15 (lm 2 18),qb 20 15 (.call (.f 50) [.t 19]),Qp 21 15 20] [0,3,21] (.cond (.t 21) (.exit 1) .skip)) (qR [Qm 22 0,Qm 23 3,Qx 24 2 22 23,Qa 25 0 24,Qo 26 25,Qu 27 .lss 26 1,Qm 28 27,Ym 29 28 0,Ym 30 28 3,qc 31 28 (.indexA 2 (.t 29) (.t 30)),qc 32 28 (fa 0 31),qc 33 28 (lo 32),qc 34 28 (.bin .gtr (.t 33) (qi 7)),Qq 35 28 34,Qm 36 35,Ym 37 36 0,Ym 38 36 3,qc 39 36 (.indexA 2 (.t 37) (.t 38)),qc 40 36 (fa 1 39),qc 41 36 (lo 40),qc 42 36 (.call (.f 32) [.t 41]),qc 43 36 (.not (.t 42)),Qq 44 36 43] [0,3,44] (.cond (.t 44) (qR [Qf 2] [2] .ret) .skip)))) (qr [] [0,3])) (qr [Qm 11 3,Qu 12 .add 11 1,Qm 3 12] [0,3]))))) (qr [] []))) (qR [Qt 2] [2] .ret)))
theorem c26:FB 26 []=some (r26,s26):=by kernel_rfl
def r29:RL:=[(2,none),(3,none)]
def s29:SCode:=qR [Qb 1 8 0,qa 2 (.mov (.c (.str []))),Qi 3 0] [1] (qs (qR [Ql 7 8 1,Q1 8 51 7,Qr 9 8] [1,9] (.cond (.t 9) (qR [qa 2 (.mov (.c (.str []))),Qi 3 1] [2,3] .ret) .skip)) (qR [Ql 10 8 1,Q1 11 52 10,Qm 4 11] [4] (qR [qa 5 (.mov (.c (.str [])))] [4,5] (qs (qR [Qi 6 0] [4,5,6] (qs (.block 0 (.loop (qs (qR [Qm 12 6,Qm 13 4,Qn 14 13,Qv 15 .lss 12 14] [4,5,6,15] (qX 15)) (qs (qs (.block 1 (qr [Qm 18 5,Qm 19 4,Qm 20 6,Qx 21 1 19 20,Qo 22 21,Qv 23 .add 18 22,qa 24 (.bin .add (.t 23) (.c (.str [10]))),Qm 5 24] [4,5,6])) (qr [] [4,5,6])) (qr [Qm 16 6,Qu 17 .add 16 1,Qm 6 17] [4,5,6]))))) (qr [] [5]))) (qs (qR [Qm 25 5,QN 26 25,Qu 27 .gtr 26 16384] [5,27] (.cond (.t 27) (qR [qa 2 (.mov (.c (.str []))),Qi 3 6] [2,3] .ret) .skip)) (qR [Qm 28 5,Qm 2 28,Qi 3 0] [2,3] .ret))))))
theorem c29:FB 29 [2000001]=some (r29,s29):=by kernel_rfl
def r32:RL:=[(2,none)]
def s32:SCode:=qR [Qf 2] [0] (qR [Qm 5 0,Q1 6 56 5,Qm 3 6] [0,3] (qs (qR [Qm 7 3,Qu 8 .lss 7 1,Qm 9 8,Ym 10 9 3,qc 11 9 (.bin .gtr (.t 10) (qi 4)),Qq 12 9 11,Qm 13 12,Ym 14 13 0,qc 15 13 (.index (.t 14) (qi 0)),qc 16 13 (.bin .eql (.t 15) (.c (.int .u8 48))),Qq 17 13 16,Qm 18 17,Ym 19 18 0,qc 20 18 (.lenS (.t 19)),Ym 21 18 3,qc 22 18 (.bin .sub (.t 20) (.t 21)),qc 23 18 (.bin .gtr (.t 22) (qi 3)),Qq 24 18 23] [0,3,24] (.cond (.t 24) (qR [Qf 2] [2] .ret) .skip)) (qs (qR [Qm 25 3,Qm 4 25] [0,4] (qs (.block 0 (.loop (qs (qR [Qm 26 4,Qm 27 0,QN 28 27,Qv 29 .lss 26 28] [0,4,29] (qX 29)) (qs (qs (.block 1 (qR [Qm 32 0,Qm 33 4,QI 34 32 33,qa 35 (.bin .lss (.t 34) (.c (.int .u8 65))),Qm 36 35,Ym 37 36 0,Ym 38 36 4,qc 39 36 (.index (.t 37) (.t 38)),qc 40 36 (.bin .gtr (.t 39) (.c (.int .u8 90))),Qq 41 36 40] [0,4,41] (.cond (.t 41) (qR [Qf 2] [2] .ret) .skip))) (qr [] [0,4])) (qr [Qm 30 4,Qu 31 .add 30 1,Qm 4 31] [0,4]))))) (qr [] []))) (qR [Qt 2] [2] .ret))))
theorem c32:FB 32 []=some (r32,s32):=by kernel_rfl
def r47:RL:=[(4,none)]
def s47:SCode:=qR [Qf 4] [0,1] (qs (qR [Qm 6 0,Qn 7 6,Qm 8 1,Qn 9 8,Qv 10 .neq 7 9] [0,1,10] (.cond (.t 10) (qR [Qf 4] [4] .ret) .skip)) (qs (qR [Qm 11 0,Qn 12 11,Qi 13 0] [0,1,12,13] (qs (.block 0 (.loop (qR [Qv 14 .lss 13 12] [0,1,12,13,14] (qs (qX 14) (qs (qs (.block 1 (qR [Qm 15 13,Qm 5 15] [0,1,5,12,13] (qs (.draw [Qm 16 0,Qm 17 5,Qx 18 4 16 17,Ql 19 4 18,Qm 20 1,Qm 21 5,Qx 22 4 20 21,Ql 23 4 22,qa 24 (.eqs true [2,1,1,1] (.t 19) (.t 23))] [0,1,12,13,24]) (.cond (.t 24) (qR [Qf 4] [4] .ret) .skip)))) (qr [] [0,1,12,13])) (qr [Qu 25 .add 13 1,Qm 13 25] [0,1,12,13])))))) (qr [] []))) (qR [Qt 4] [4] .ret)))
theorem c47:FB 47 []=some (r47,s47):=by kernel_rfl
def r50:RL:=[(2,none)]
def s50:SCode:=qR [Qb 1 2 0,Qf 2] [1] (qR [Qa 3 0 1,Qo 4 3,Qu 5 .eql 4 0,Qm 6 5,qb 7 6 (fa 1 1),qb 8 6 (lo 7),qb 9 6 (.bin .eql (.t 8) (.c (.str []))),Qp 10 6 9,Qm 2 10] [2] .ret)
theorem c50:FB 50 [2000001]=some (r50,s50):=by kernel_rfl
def r53:RL:=[(2,none)]
def s53:SCode:=qR [Qb 1 8 0,Qf 2] [1] (qR [Ql 3 8 1,Q1 4 80 3,Qm 5 4,qb 6 5 (lm 8 1),qb 7 5 (.call (.f 81) [.t 6]),qb 8 5 (.bin .leq (.t 7) (qi 8)),Qp 9 5 8,Qm 10 9,qb 11 10 (lm 8 1),qb 12 10 (.call (.f 82) [.t 11]),qb 13 10 (.bin .leq (.t 12) (qi 1024)),Qp 14 10 13,Qm 15 14,qb 16 15 (lm 8 1),qb 17 15 (.call (.f 83) [.t 16]),Qp 18 15 17,Qm 2 18] [2] .ret)
theorem c53:FB 53 [2000001]=some (r53,s53):=by kernel_rfl
def r56:RL:=[(2,none)]
def s56:SCode:=qR [Qi 2 0] [0] (qR [Qi 3 0] [0,3] (qs (qs (.block 0 (.loop (qs (qR [Qm 4 3,Qm 5 0,QN 6 5,Qv 7 .lss 4 6,Qm 8 7,Bm 9 8 0,Bm 10 8 3,qb 11 8 (.index (.t 9) (.t 10)),qb 12 8 (.bin .geq (.t 11) (.c (.int .u8 48))),Qp 13 8 12,Qm 14 13,Bm 15 14 0,Bm 16 14 3,qb 17 14 (.index (.t 15) (.t 16)),qb 18 14 (.bin .leq (.t 17) (.c (.int .u8 57))),Qp 19 14 18] [0,3,19] (qX 19)) (qs (.block 1 (qr [Qm 20 3,Qu 21 .add 20 1,Qm 3 21] [0,3])) (qr [] [0,3]))))) (qr [] [3])) (qR [Qm 22 3,Qm 2 22] [2] .ret)))
theorem c56:FB 56 []=some (r56,s56):=by kernel_rfl
def r77:RL:=[(4,none)]
def s77:SCode:=qR [Qb 2 8 0,Qf 4] [1,2] (qs (qR [Qm 8 1,Qu 9 .gtr 8 8,Qm 10 9,Ym 11 10 1,qc 12 10 (.bin .gtr (.t 11) (qi 0)),Ym 13 10 12,qb 14 13 (fa 3 2),qb 15 13 (lo 14),qb 16 13 (.bin .eql (.t 15) (qi 0)),qc 17 10 (.pick (.t 13) (.t 16) qf),Qq 18 10 17,Qm 19 18,qc 20 19 (lm 8 2),qc 21 19 (.call (.f 134) [.t 20]),qc 22 19 (.not (.t 21)),Qq 23 19 22,Qm 24 23,qc 25 24 (fa 7 2),qc 26 24 (lo 25),qc 27 24 (.len (.t 26)),qc 28 24 (.bin .gtr (.t 27) (qi 64)),Qq 29 24 28] [1,2,29] (.cond (.t 29) (qR [Qf 4] [4] .ret) .skip)) (qs (qR [Qi 5 0] [1,2,5] (qs (.block 0 (.loop (qs (qR [Qm 30 5,Qa 31 7 2,Qo 32 31,Qn 33 32,Qv 34 .lss 30 33] [1,2,5,34] (qX 34)) (qs (qs (.block 1 (qR [Qa 37 7 2,Qo 38 37,Qm 39 5,Qx 40 8 38 39,Ql 41 8 40,QU 6 34,QS 8 6 41] [1,2,5,6] (qs (qR [Qa 42 3 2,Qo 43 42,Qa 44 3 6,Qo 45 44,Q2 46 135 43 45,Qr 47 46,Qm 48 47,qc 49 48 (lm 8 6),Ym 50 48 1,qc 51 48 (.bin .add (.t 50) (qi 1)),qc 52 48 (.call (.f 77) [.t 49,.t 51]),qc 53 48 (.not (.t 52)),Qq 54 48 53] [1,2,5,6,54] (.cond (.t 54) (qR [Qf 4] [4] .ret) .skip)) (qR [Qi 7 0] [1,2,5,6,7] (qs (.block 2 (.loop (qs (qR [Qm 55 7,Qm 56 5,Qv 57 .lss 55 56] [1,2,5,6,7,57] (.cond (.t 57) .skip (.exit 2))) (qs (qs (.block 3 (qs (.draw [Qa 60 7 2,Qo 61 60,Qm 62 7,Qx 63 8 61 62,Qa 64 3 63,Qo 65 64,Qa 66 3 6,Qo 67 66,Qv 68 .eql 65 67,Qm 69 68,qb 70 69 (fa 7 2),qb 71 69 (lo 70),Bm 72 69 7,qb 73 69 (.indexA 8 (.t 71) (.t 72)),qb 74 69 (fa 4 73),qb 75 69 (lo 74),qb 76 69 (fa 4 6),qb 77 69 (lo 76),qb 78 69 (.bin .eql (.t 75) (.t 77)),Qp 79 69 78] [1,2,5,6,7,79]) (.cond (.t 79) (qR [Qf 4] [4] .ret) .skip))) (qr [] [1,2,5,6,7])) (qr [Qm 58 7,Qu 59 .add 58 1,Qm 7 59] [1,2,5,6,7]))))) (qr [] [1,2,5])))))) (qr [] [1,2,5])) (qr [Qm 35 5,Qu 36 .add 35 1,Qm 5 36] [1,2,5]))))) (qr [] []))) (qR [Qt 4] [4] .ret)))
theorem c77:FB 77 [2000002]=some (r77,s77):=by kernel_rfl
def r80:RL:=[(2,none)]
def s80:SCode:=qR [Qb 1 8 0,Qf 2] [1] (qs (qR [Ql 5 8 1,Q1 6 137 5,Qr 7 6] [1,7] (.cond (.t 7) (qR [Qf 2] [2] .ret) .skip)) (qs (qR [Qi 3 0] [1,3] (qs (.block 0 (.loop (qs (qR [Qm 8 3,Qa 9 7 1,Qo 10 9,Qn 11 10,Qv 12 .lss 8 11] [1,3,12] (qX 12)) (qs (qs (.block 1 (qs (qs (.drawL [Qa 15 3 1,qa 16 (.loadF false 1 (.t 15)),Qa 17 7 1,qa 18 (.loadF false 1 (.t 17)),Qm 19 3,Qx 20 8 18 19,Qa 21 3 20,Qo 22 21,Q2 23 138 16 22,Qr 24 23,Qm 25 24,qc 26 25 (fa 7 1),qc 27 25 (.loadF false 1 (.t 26)),Ym 28 25 3,qc 29 25 (.indexA 8 (.t 27) (.t 28)),qc 30 25 (lm 8 29),qc 31 25 (.call (.f 80) [.t 30]),qc 32 25 (.not (.t 31)),Qq 33 25 32] [1,3,33]) (.cond (.t 33) (qR [Qf 2] [2] .ret) .skip)) (qR [Qi 4 0] [1,3,4] (qs (.block 2 (.loop (qs (qR [Qm 34 4,Qm 35 3,Qv 36 .lss 34 35] [1,3,4,36] (.cond (.t 36) .skip (.exit 2))) (qs (qs (.block 3 (qs (.draw [Qa 39 7 1,Qo 40 39,Qm 41 4,Qx 42 8 40 41,Qa 43 3 42,Qo 44 43,Qa 45 7 1,Qo 46 45,Qm 47 3,Qx 48 8 46 47,Qa 49 3 48,Qo 50 49,Qv 51 .eql 44 50,Qm 52 51,qb 53 52 (fa 7 1),qb 54 52 (lo 53),Bm 55 52 4,qb 56 52 (.indexA 8 (.t 54) (.t 55)),qb 57 52 (fa 4 56),qb 58 52 (lo 57),qb 59 52 (fa 7 1),qb 60 52 (lo 59),Bm 61 52 3,qb 62 52 (.indexA 8 (.t 60) (.t 61)),qb 63 52 (fa 4 62),qb 64 52 (lo 63),qb 65 52 (.bin .eql (.t 58) (.t 64)),Qp 66 52 65] [1,3,4,66]) (.cond (.t 66) (qR [Qf 2] [2] .ret) .skip))) (qr [] [1,3,4])) (qr [Qm 37 4,Qu 38 .add 37 1,Qm 4 38] [1,3,4]))))) (qr [] [1,3]))))) (qr [] [1,3])) (qr [Qm 13 3,Qu 14 .add 13 1,Qm 3 14] [1,3]))))) (qr [] []))) (qR [Qt 2] [2] .ret)))
theorem c80:FB 80 [2000001]=some (r80,s80):=by kernel_rfl
def r83:RL:=[(2,none)]
def s83:SCode:=qR [Qb 1 8 0,Qf 2] [1] (qR [Ql 8 8 1,Q1 9 139 8,Qm 3 9] [1,3] (qR [Qt 4] [1,3,4] (qs (qR [Qi 5 0] [1,3,4,5] (qs (.block 0 (.loop (qs (qR [Qm 10 5,Qm 11 3,Qn 12 11,Qv 13 .lss 10 12] [1,3,4,5,13] (qX 13)) (qs (qs (.block 1 (qr [Qm 16 4,Qm 17 16,Bm 18 17 3,Bm 19 17 5,qb 20 17 (.indexA 3 (.t 18) (.t 19)),qb 21 17 (lm 3 20),qb 22 17 (.build [.int .i64 0,.int .i64 0,.int .i64 0] []),qb 23 17 (.eqs false [1,1,1] (.t 21) (.t 22)),Qp 24 17 23,Qm 4 24] [1,3,4,5])) (qr [] [1,3,4,5])) (qr [Qm 14 5,Qu 15 .add 14 1,Qm 5 15] [1,3,4,5]))))) (qr [] [1,3,4]))) (qs (qR [Qm 25 4] [1,3,25] (.cond (.t 25) (qR [Qt 2] [2] .ret) .skip)) (qs (qs (.drawL [Qm 26 3,qa 27 (.indexA 3 (.t 26) (qi 0)),qa 29 (.build [.int .i64 0,.int .i64 0,.int .i64 0] []),Qa 31 3 1,qa 32 (.loadF false 1 (.t 31)),Qu 33 .eql 32 0,Ql 28 3 27,qa 30 (.eqs false [1,1,1] (.t 28) (.t 29)),qa 34 (.eqb true (.t 30) (.t 33))] [3,34]) (.cond (.t 34) (qR [Qf 2] [2] .ret) .skip)) (qs (qR [Qi 6 0] [3,6] (qs (.block 2 (.loop (qs (qR [Qm 35 6,Qm 36 3,Qn 37 36,Qv 38 .lss 35 37] [3,6,38] (.cond (.t 38) .skip (.exit 2))) (qs (qs (.block 3 (qR [Qi 7 0] [3,6,7] (qs (.block 4 (.loop (qs (qR [Qm 41 7,Qm 42 6,Qv 43 .lss 41 42] [3,6,7,43] (.cond (.t 43) .skip (.exit 4))) (qs (qs (.block 5 (qs (.draw [Qm 46 3,Qm 47 7,Qx 48 3 46 47,Ql 49 3 48,Qm 50 3,Qm 51 6,Qx 52 3 50 51,Ql 53 3 52,qa 54 (.eqs false [1,1,1] (.t 49) (.t 53))] [3,6,7,54]) (.cond (.t 54) (qR [Qf 2] [2] .ret) .skip))) (qr [] [3,6,7])) (qr [Qm 44 7,Qu 45 .add 44 1,Qm 7 45] [3,6,7]))))) (qr [] [3,6])))) (qr [] [3,6])) (qr [Qm 39 6,Qu 40 .add 39 1,Qm 6 40] [3,6]))))) (qr [] []))) (qR [Qt 2] [2] .ret)))))))
theorem c83:FB 83 [2000001]=some (r83,s83):=by kernel_rfl
def r86:RL:=[(0,none)]
def s86:SCode:=qR [Qz 0] [] (qR [qa 1 (.buildS 9 1 8 [.str [],.str [],.str [],.str [],.str [],.str [],.str [],.str []] [(0,.c (.str [98,111,111,107])),(1,.c (.str [112,97,114,116])),(2,.c (.str [115,101,99,116,105,111,110])),(3,.c (.str [112,97,114,97,103,114,97,112,104])),(4,.c (.str [116,97,98,108,101])),(5,.c (.str [114,111,119])),(6,.c (.str [99,101,108,108])),(7,.c (.str [110,111,116,101]))]),Qm 0 1] [0] .ret)
theorem c86:FB 86 []=some (r86,s86):=by kernel_rfl
def r134:RL:=[(2,none)]
def s134:SCode:=qR [Qb 1 8 0,Qf 2] [1] (qs (qR [Qa 3 3 1,Qo 4 3,Qu 5 .eql 4 0] [1,5] (.cond (.t 5) (qR [Qa 6 4 1,Qo 7 6,qa 8 (.bin .eql (.t 7) (.c (.str []))),Qm 9 8,qb 10 9 (fa 5 1),qb 11 9 (lo 10),qb 12 9 (.len (.t 11)),qb 13 9 (.bin .eql (.t 12) (qi 0)),Qp 14 9 13,Qm 15 14,qb 16 15 (fa 6 1),qb 17 15 (lo 16),qb 18 15 (.len (.t 17)),qb 19 15 (.bin .eql (.t 18) (qi 0)),Qp 20 15 19,Qm 2 20] [2] .ret) .skip)) (qR [Qa 21 3 1,Qo 22 21,Qu 23 .gtr 22 0,Qm 24 23,qb 25 24 (fa 3 1),qb 26 24 (lo 25),qb 27 24 (.bin .leq (.t 26) (qi 7)),Qp 28 24 27,Qm 29 28,qb 30 29 (fa 4 1),qb 31 29 (lo 30),qb 32 29 (.call (.f 32) [.t 31]),Qp 33 29 32,Qm 34 33,qb 35 34 (fa 5 1),qb 36 34 (lo 35),qb 37 34 (.call (.f 179) [.t 36]),Qp 38 34 37,Qm 39 38,qb 40 39 (fa 6 1),qb 41 39 (lo 40),qb 42 39 (.call (.f 179) [.t 41]),Qp 43 39 42,Qm 2 43] [2] .ret))
theorem c134:FB 134 [2000001]=some (r134,s134):=by kernel_rfl
def r137:RL:=[(2,none)]
def s137:SCode:=qR [Qb 1 8 0,Qf 2] [1] (qs (qR [Qa 3 3 1,Qo 4 3,Qu 5 .lss 4 0,Qm 6 5,qc 7 6 (fa 3 1),qc 8 6 (lo 7),qc 9 6 (.bin .gtr (.t 8) (qi 7)),Qq 10 6 9,Qm 11 10,qc 12 11 (fa 7 1),qc 13 11 (lo 12),qc 14 11 (.len (.t 13)),qc 15 11 (.bin .gtr (.t 14) (qi 64)),Qq 16 11 15,Qm 17 16,qc 18 17 (fa 5 1),qc 19 17 (lo 18),qc 20 17 (.call (.f 181) [.t 19]),qc 21 17 (.not (.t 20)),Qq 22 17 21,Qm 23 22,qc 24 23 (fa 6 1),qc 25 23 (lo 24),qc 26 23 (.call (.f 181) [.t 25]),qc 27 23 (.not (.t 26)),Qq 28 23 27] [1,28] (.cond (.t 28) (qR [Qf 2] [2] .ret) .skip)) (qs (qR [Qa 29 3 1,Qo 30 29,Qu 31 .eql 30 0] [1,31] (.cond (.t 31) (qR [Qa 32 4 1,Qo 33 32,qa 34 (.bin .eql (.t 33) (.c (.str []))),Qm 35 34,qb 36 35 (fa 5 1),qb 37 35 (lo 36),qb 38 35 (.len (.t 37)),qb 39 35 (.bin .eql (.t 38) (qi 0)),Qp 40 35 39,Qm 41 40,qb 42 41 (fa 6 1),qb 43 41 (lo 42),qb 44 41 (.len (.t 43)),qb 45 41 (.bin .eql (.t 44) (qi 0)),Qp 46 41 45,Qm 2 46] [2] .ret) .skip)) (qR [Qa 47 4 1,Qo 48 47,Q1 49 32 48,Qm 2 49] [2] .ret)))
theorem c137:FB 137 [2000001]=some (r137,s137):=by kernel_rfl
def r179:RL:=[(2,none)]
def s179:SCode:=qR [Qf 2] [0] (qs (qR [Qi 3 0] [0,3] (qs (.block 0 (.loop (qs (qR [Qm 4 3,Qm 5 0,Qn 6 5,Qv 7 .lss 4 6] [0,3,7] (qX 7)) (qs (qs (.block 1 (qR [Qm 10 0,Qm 11 3,Qx 12 4 10 11,Qa 13 0 12,Qo 14 13,Q1 15 222 14,Qr 16 15] [0,3,16] (.cond (.t 16) (qR [Qf 2] [2] .ret) .skip))) (qr [] [0,3])) (qr [Qm 8 3,Qu 9 .add 8 1,Qm 3 9] [0,3]))))) (qr [] [0]))) (qR [Qm 17 0,Qn 18 17,Qu 19 .leq 18 256,Qm 2 19] [2] .ret))
theorem c179:FB 179 []=some (r179,s179):=by kernel_rfl
def r206:RL:=[(2,none)]
def s206:SCode:=qR [Qf 2] [0] (qR [Qm 3 0,qa 4 (.bin .lss (.t 3) (.c (.int .i32 48))),Qm 5 4,Ym 6 5 0,qc 7 5 (.bin .gtr (.t 6) (.c (.int .i32 57))),Qq 8 5 7,Qm 2 8] [2] .ret)
theorem c206:FB 206 []=some (r206,s206):=by kernel_rfl
end Go.Av
namespace Go.Av
open Go Go.RowKit Go.Proofs
set_option linter.unusedSimpArgs false
set_option linter.unusedVariables false
def inR (n lo hi:Int):Bool:=decide (lo<=n)&&decide (n<=hi)
def nests (p k:Int):Bool:=
 if p=0 then decide (k=1)||decide (k=2)else if p=1 then decide (k=2)else if p=2\/p=3 then decide (k=3)||decide (k=4)||decide (k=7)else if p=4 then decide (k=5)else if p=5 then decide (k=6)else false
section
variable (G:Glob)
theorem f6 (n lo hi:Int):Pure G Tryz.prog 6 [.int .i64 n,.int .i64 lo,.int .i64 hi] (.bool (inR n lo hi)):=by
 refine Pure.w c6 λR hR=>?_
 unfold s6 r6
 (repeat' (first|(with_reducible (refine gd_case (λh=>?_) (λh=>?_))<;>(try simp only[Da,Db,Dc,Dw,De,Df,Dg,Dh]at h))|simp only[EVz,seval,↓reduceIte,EV6,EV7]))
 (all_goals(((refine RET.eq hR ?_;(refine congrArg AV.bool (Bool.eq_iff_iff.2 ?_);simp only[inR,EVB]at*;omega)))))
theorem f138 (p k:Int):Pure G Tryz.prog 138 [.int .i64 p,.int .i64 k] (.bool (nests p k)):=by
 refine Pure.w c138 λR hR=>?_
 unfold s138 r138
 (repeat' (first|(with_reducible (first|refine split_case (λh=>?_) (λh=>?_)|refine gd_case (λh=>?_) (λh=>?_))<;>(try simp only[Da,Db,Dc,Dw,De,Df,Dg,Dh]at h))|simp only[EVz,seval,↓reduceIte,EV6,EV7]|(exfalso;omega)))
 (all_goals(((refine RET.eq hR ?_;((simp_all[nests];done))))))
theorem f135 (p k:Int):Pure G Tryz.prog 135 [.int .i64 p,.int .i64 k] (.bool (nests p k)):=by
 refine Pure.w c135 λR hR=>?_
 unfold s135 r135
 (repeat' (first|(with_reducible (first|refine split_case (λh=>?_) (λh=>?_)|refine gd_case (λh=>?_) (λh=>?_))<;>(try simp only[Da,Db,Dc,Dw,De,Df,Dg,Dh]at h))|simp only[EVz,seval,↓reduceIte,EV6,EV7]))
 (all_goals(((refine RET.eq hR ?_;((simp_all[nests];done))))))
end
def iz:Itm:=⟨0,[],[],0,0,⟨⟨0,0,0⟩,0,[],[],[],[]⟩,[],[],[],[],⟨0,0,[]⟩,0,0,0,[],[]⟩
section
variable (G:Glob)
theorem f9 (k:Int):Pure G Tryz.prog 9 [.int .i64 k] (.bool (inR k 0 6)):=by
 refine Pure.w c9 λR hR=>?_
 unfold s9 r9
 (repeat' (first|(with_reducible (refine gd_case (λh=>?_) (λh=>?_))<;>(try simp only[Da,Db,Dc,Dw,De,Df,Dg,Dh]at h))|simp only[EVz,seval,↓reduceIte,EV6,EV7]))
 (all_goals(((refine RET.eq hR ?_;(refine congrArg AV.bool (Bool.eq_iff_iff.2 ?_);simp only[inR,EVB]at*;omega)))))
theorem f50 (k:Int) (l:List UInt8):Pure G Tryz.prog 50 [.agg [.int .i64 k,.str l]] (.bool (decide (k=0)&&decide (l=[]))):=by
 refine Pure.w c50 λR hR=>?_
 unfold s50 r50
 (repeat' (first|(with_reducible (refine gd_case (λh=>?_) (λh=>?_))<;>(try simp only[Da,Db,Dc,Dw,De,Df,Dg,Dh]at h))|simp only[EVz,seval,↓reduceIte,EV6,EV7]))
 (all_goals(first|(refine RET.eq hR ?_;(refine congrArg AV.bool (Bool.eq_iff_iff.2 ?_);simp only[EVB]at*;omega))|(refine RET.eq hR ?_;((simp_all[];done)))))
end
def okCh (c:UInt8):Bool:=decide ((33:Int)<=c.toNat)&&decide ((c.toNat:Int)<=126)
def wordOk (s:List UInt8):Bool:=decide ((1:Int)<=s.length)&&(decide ((s.length:Int)<=24)&&s.all okCh)
section
variable (G:Glob)
theorem f85 (s:List UInt8):Pure G Tryz.prog 85 [.str s] (.bool (wordOk s)):=by
 refine Pure.w c85 λR hR=>?_
 unfold s85 r85
 (repeat' (first|(with_reducible (first|refine split_case (λh=>?_) (λh=>?_)|refine gd_case (λh=>?_) (λh=>?_))<;>(try simp only[Da,Db,Dc,Dw,De,Df,Dg,Dh]at h))|simp only[EVz,seval,↓reduceIte,EV6,EV7,hx.yes,hx.le0,hx.lt',hx.get,hx.row,hw]|simp only[EVz,seval,↓reduceIte,EV6,EV7,hn]|simp only[EVz,seval,↓reduceIte,EV6,EV7]|(refine LK_next hx () ?_ (Weak.rfl' _ _))|(refine W_list (s) (λi r (c:Unit)=>s.all okCh=r.all okCh) (λi c=>[(0,.str s),(3,.int .i64 i)]) (λ_ _=>[]) () (by rfl) (Weak.rfl' _ _) (by omega) (λi x r c hok hx hw=>?_) (λc hok hn=>?_))))
 (all_goals(first|(refine RET.eq hR ?_;(refine congrArg AV.bool (Bool.eq_iff_iff.2 ?_);simp only[wordOk,okCh,EVB]at*;omega))|(refine RET.eq hR ?_;first|(simp_all[wordOk,okCh];done)|(simp_all[wordOk,okCh];omega))|(simp_all[wordOk,okCh];done)))
end
end Go.Av
