/-
  THE TRANSLATED CODE. Printed by mkcode2.py.
-/
import Derived.Test.YtcecmifknojgeaaGreatDoorXOpenGtoXCS
import Derived.Test.YtcecmifknojgeaaGreatDoorXAv24toXAv26
import Derived.Test.YtcecmifknojgeaaGreatDoorProg
namespace Go.Av
open Go List
set_option linter.unusedSimpArgs false
set_option linter.unusedVariables false
def r34:RL:=[(2,none)]
def s34:SCode:=qR [Qb 1 8 0,Qf 2] [1] (qR [Ql 3 8 1,qa 4 (.call (.f 48) [.t 3,.f 53]),Qm 5 4,qb 6 5 (lm 8 1),qb 7 5 (.call (.f 54) [.t 6]),qb 8 5 (.bin .leq (.t 7) (qi 8)),Qp 9 5 8,Qm 10 9,qb 11 10 (lm 8 1),qb 12 10 (.call (.f 55) [.t 11]),qb 13 10 (.bin .leq (.t 12) (qi 1024)),Qp 14 10 13,Qm 15 14,qb 16 15 (lm 8 1),qb 17 15 (.call (.f 56) [.t 16]),Qp 18 15 17,Qm 2 18] [2] .ret)
theorem c34:FB 34 [2000001]=some (r34,s34):=by kernel_rfl
def r46:RL:=[(4,none)]
def s46:SCode:=qR [Qf 4] [0,1] (qs (qR [Qm 6 0,Qn 7 6,Qm 8 1,Qn 9 8,Qv 10 .neq 7 9] [0,1,10] (.cond (.t 10) (qR [Qf 4] [4] .ret) .skip)) (qs (qR [Qm 11 0,Qn 12 11,Qi 13 0] [0,1,12,13] (qs (.block 0 (.loop (qR [Qv 14 .lss 13 12] [0,1,12,13,14] (qs (qX 14) (qs (qs (.block 1 (qR [Qm 15 13,Qm 5 15] [0,1,5,12,13] (qs (.draw [Qm 16 0,Qm 17 5,Qx 18 4 16 17,Ql 19 4 18,Qm 20 1,Qm 21 5,Qx 22 4 20 21,Ql 23 4 22,qa 24 (.eqs true [2,1,1,1] (.t 19) (.t 23))] [0,1,12,13,24]) (.cond (.t 24) (qR [Qf 4] [4] .ret) .skip)))) (qr [] [0,1,12,13])) (qr [Qu 25 .add 13 1,Qm 13 25] [0,1,12,13])))))) (qr [] []))) (qR [Qt 4] [4] .ret)))
theorem c46:FB 46 []=some (r46,s46):=by kernel_rfl
def r49:RL:=[(3,none)]
def s49:SCode:=qR [Qb 2 8 0,Qf 3] [1,2] (qR [Qo 4 1,Qa 5 0 2,Ql 6 3 5,qa 7 (.buildS 23 3 1 [.int .i64 0,.int .i64 0,.int .i64 0] [(0,.t 6)]),Qw 8 23 3 24 4 7,QS 1 1 8] [] (qR [Qt 3] [3] .ret))
theorem c49:FB 49 [2000002]=some (r49,s49):=by kernel_rfl
def r55:RL:=[(2,none)]
def s55:SCode:=qR [Qb 1 8 0,Qi 2 0] [1] (qR [qa 3 (.alloc 3 [.int .i64 0]),⟨none,none,.store 1 (.t 3) (qi 0)⟩] [1,3] (qR [Ql 4 8 1,qa 5 (.mkfun (.func 87) [] [.t 3]),Q2 6 48 4 5] [3] (qR [Qo 7 3,Qm 2 7] [2] .ret)))
theorem c55:FB 55 [2000001]=some (r55,s55):=by kernel_rfl
def r67:RL:=[(2,none)]
def s67:SCode:=qR [Qf 2] [0] (qs (qR [Qm 5 0,Qn 6 5,Qi 7 0] [0,5,6,7] (qs (.block 0 (.loop (qR [Qv 8 .lss 7 6] [0,5,6,7,8] (qs (qX 8) (qs (qs (.block 1 (qR [Qm 9 7,Qx 10 2 5 7,Ql 11 2 10,qa 4 (.alloc 100 [.int .i64 0,.str []]),Qm 3 9,QS 2 4 11] [0,3,4,5,6,7] (qs (qR [Qm 12 3,Qu 13 .eql 12 0,Qm 14 13,qb 15 14 (lm 2 4),qb 16 14 (.call (.f 131) [.t 15]),Qp 17 14 16] [0,4,5,6,7,17] (.cond (.t 17) (.exit 1) .skip)) (qR [Qa 18 0 4,Qo 19 18,Qu 20 .leq 19 0,Qm 21 20,qc 22 21 (fa 0 4),qc 23 21 (lo 22),qc 24 21 (.bin .gtr (.t 23) (qi 7)),Qq 25 21 24,Qm 26 25,qc 27 26 (fa 1 4),qc 28 26 (lo 27),qc 29 26 (.call (.f 84) [.t 28]),qc 30 26 (.not (.t 29)),Qq 31 26 30] [0,5,6,7,31] (.cond (.t 31) (qR [Qf 2] [2] .ret) .skip))))) (qr [] [0,5,6,7])) (qr [Qu 32 .add 7 1,Qm 7 32] [0,5,6,7])))))) (qr [] [0]))) (qR [Qm 33 0,Qn 34 33,Qu 35 .leq 34 9,Qm 2 35] [2] .ret))
theorem c67:FB 67 []=some (r67,s67):=by kernel_rfl
def r70:RL:=[(4,none)]
def s70:SCode:=qR [Qb 2 25 0,Qb 3 25 1,Qf 4] [2,3] (qR [Qa 8 0 2,Qo 9 8,Qa 10 0 3,Qo 11 10,Qv 12 .eql 9 11,Qm 13 12,qb 14 13 (fa 3 2),qb 15 13 (lo 14),qb 16 13 (fa 3 3),qb 17 13 (lo 16),qb 18 13 (.bin .eql (.t 15) (.t 17)),Qp 19 13 18,Qm 20 19,qb 21 20 (fa 4 2),qb 22 20 (lo 21),qb 23 20 (fa 4 3),qb 24 20 (lo 23),qb 25 20 (.bin .eql (.t 22) (.t 24)),Qp 26 20 25,Qm 27 26,qb 28 27 (fa 20 2),qb 29 27 (lo 28),qb 30 27 (fa 20 3),qb 31 27 (lo 30),qb 32 27 (.bin .eql (.t 29) (.t 31)),Qp 33 27 32,Qm 34 33,qb 35 34 (fa 21 2),qb 36 34 (lo 35),qb 37 34 (fa 21 3),qb 38 34 (lo 37),qb 39 34 (.bin .eql (.t 36) (.t 38)),Qp 40 34 39,Qm 41 40,qb 42 41 (fa 22 2),qb 43 41 (lo 42),qb 44 41 (fa 22 3),qb 45 41 (lo 44),qb 46 41 (.bin .eql (.t 43) (.t 45)),Qp 47 41 46,Qm 5 47] [2,3,5] (qR [Qa 48 15 2,Qo 49 48,Qa 50 15 3,Qo 51 50,Qv 52 .eql 49 51,Qm 53 52,qb 54 53 (fa 16 2),qb 55 53 (lo 54),qb 56 53 (fa 16 3),qb 57 53 (lo 56),qb 58 53 (.bin .eql (.t 55) (.t 57)),Qp 59 53 58,Qm 60 59,qb 61 60 (fa 23 2),qb 62 60 (lo 61),qb 63 60 (fa 23 3),qb 64 60 (lo 63),qb 65 60 (.bin .eql (.t 62) (.t 64)),Qp 66 60 65,Qm 67 66,qb 68 67 (fa 17 2),qb 69 67 (lm 3 68),qb 70 67 (fa 17 3),qb 71 67 (lm 3 70),qb 72 67 (.eqs false [1,1,2] (.t 69) (.t 71)),Qp 73 67 72,Qm 6 73] [2,3,5,6] (qR [Qa 74 1 2,Qo 75 74,Qa 76 1 3,Qo 77 76,Q2 78 133 75 77,Qm 79 78,qb 80 79 (fa 2 2),qb 81 79 (lo 80),qb 82 79 (fa 2 3),qb 83 79 (lo 82),qb 84 79 (.call (.f 133) [.t 81,.t 83]),Qp 85 79 84,Qm 86 85,qb 87 86 (fa 13 2),qb 88 86 (lo 87),qb 89 86 (fa 13 3),qb 90 86 (lo 89),qb 91 86 (.call (.f 134) [.t 88,.t 90]),Qp 92 86 91,Qm 93 92,qb 94 93 (fa 14 2),qb 95 93 (lo 94),qb 96 93 (fa 14 3),qb 97 93 (lo 96),qb 98 93 (.call (.f 134) [.t 95,.t 97]),Qp 99 93 98,Qm 7 99] [2,3,5,6,7] (qR [Qm 100 5,Qm 101 100,Bm 102 101 6,Qp 103 101 102,Qm 104 103,Bm 105 104 7,Qp 106 104 105,Qm 107 106,qb 108 107 (fa 5 2),qb 109 107 (lm 8 108),qb 110 107 (fa 5 3),qb 111 107 (lm 8 110),qb 112 107 (.call (.f 29) [.t 109,.t 111]),Qp 113 107 112,Qm 114 113,qb 115 114 (fa 24 2),qb 116 114 (lo 115),qb 117 114 (fa 24 3),qb 118 114 (lo 117),qb 119 114 (.call (.f 135) [.t 116,.t 118,.f 70]),Qp 120 114 119,Qm 4 120] [4] .ret))))
theorem c70:FB 70 [2000002,2000003]=some (r70,s70):=by kernel_rfl
def r82:RL:=[(2,none)]
def s82:SCode:=qR [Qz 2] [0] (qs (qR [Qm 3 0,qa 4 (.eqnil 0 false (.t 3))] [0,4] (.cond (.t 4) (qR [Qz 2] [2] .ret) .skip)) (qR [qa 5 (.raw (.buildSlice 24 0 #[])),Qm 6 0,qa 7 (.raw (.call (.mk (.builtin .append) #[.tmp 5,.tmp 6] #[24,24]))),Qm 2 7] [2] .ret))
theorem c82:FB 82 [3000005,3000007]=some (r82,s82):=by kernel_rfl
def r85:RL:=[(2,none)]
def s85:SCode:=qR [Qf 2] [0] (qR [Qz 3] [0,3] (qs (qR [Qm 6 0,Qn 7 6,Qi 8 0] [0,3,6,7,8] (qs (.block 0 (.loop (qR [Qv 9 .lss 8 7] [0,3,6,7,8,9] (qs (qX 9) (qs (qs (.block 1 (qR [Qx 10 4 6 8,Ql 11 4 10,qa 5 (.alloc 64 [.str [],.int .i64 0,.int .i64 0,.int .i64 0]),QS 4 5 11] [0,3,5,6,7,8] (qr [Qm 12 3,Qa 13 0 5,Qo 14 13,qa 15 (.buildS 9 1 1 [.str []] [(0,.t 14)]),Qw 16 9 1 16 12 15,Qm 3 16] [0,3,6,7,8]))) (qr [] [0,3,6,7,8])) (qr [Qu 17 .add 8 1,Qm 8 17] [0,3,6,7,8])))))) (qr [] [0,3]))) (qR [Qm 18 0,Qn 19 18,Qu 20 .leq 19 256,Qm 21 20,Bm 22 21 3,qb 23 21 (.call (.f 158) [.t 22]),Qp 24 21 23,Qm 2 24] [2] .ret)))
theorem c85:FB 85 []=some (r85,s85):=by kernel_rfl
def r109:RL:=[(2,none)]
def s109:SCode:=qR [Qf 2] [0] (qR [Qm 3 0,qa 4 (.call (.f 127) [.t 3,qi 0,qi 3]),Qm 2 4] [2] .ret)
theorem c109:FB 109 []=some (r109,s109):=by kernel_rfl
def r112:RL:=[(2,none)]
def s112:SCode:=qR [Qb 1 25 0,Qf 2] [] (qR [Qt 2] [2] .ret)
theorem c112:FB 112 [2000001]=some (r112,s112):=by kernel_rfl
def r115:RL:=[(4,none)]
def s115:SCode:=qR [Qf 4] [0,1] (qR [Qm 5 0,Q1 6 158 5,Qm 7 6,Bm 8 7 0,qb 9 7 (.len (.t 8)),Bm 10 7 1,qb 11 7 (.bin .geq (.t 9) (.t 10)),Qp 12 7 11,Qm 4 12] [4] .ret)
theorem c115:FB 115 []=some (r115,s115):=by kernel_rfl
def r118:RL:=[(2,none)]
def s118:SCode:=qR [Qb 1 25 0,Qf 2] [1] (qR [Qa 3 13 1,Qo 4 3,qa 5 (.call (.f 115) [.t 4,qi 0]),Qm 6 5,qb 7 6 (fa 14 1),qb 8 6 (lo 7),qb 9 6 (.call (.f 115) [.t 8,qi 1]),Qp 10 6 9,Qm 11 10,qb 12 11 (lm 25 1),qb 13 11 (.call (.f 116) [.t 12]),Qp 14 11 13,Qm 15 14,qb 16 15 (fa 13 1),qb 17 15 (lo 16),qb 18 15 (.len (.t 17)),qb 19 15 (.bin .gtr (.t 18) (qi 0)),Bm 20 15 19,qc 21 20 (fa 4 1),qc 22 20 (lo 21),qc 23 20 (.bin .eql (.t 22) (qi 0)),qb 24 15 (.pick (.t 20) qt (.t 23)),Qp 25 15 24,Qm 2 25] [2] .ret)
theorem c118:FB 118 [2000001]=some (r118,s118):=by kernel_rfl
def r121:RL:=[(2,some (true,25))]
def s121:SCode:=qR [Qb 1 25 0,qa 2 (.alloc 34 zItm)] [1,2] (qR [Qa 3 15 1,Qo 4 3,qa 5 (.build zItm [(15,(1,.t 4))]),QS 25 2 5] [2] .ret)
theorem c121:FB 121 [2000001]=some (r121,s121):=by kernel_rfl
def r124:RL:=[(2,none)]
def s124:SCode:=qR [Qb 1 25 0,Qf 2] [1] (qR [Qa 3 3 1,Qo 4 3,Q1 5 109 4,Qm 6 5,qb 7 6 (fa 2 1),qb 8 6 (lo 7),qb 9 6 (.call (.f 67) [.t 8]),Qp 10 6 9,Qm 2 10] [2] .ret)
theorem c124:FB 124 [2000001]=some (r124,s124):=by kernel_rfl
def r127:RL:=[(6,none)]
def s127:SCode:=qR [Qf 6] [0,1,2] (qR [Qm 7 0,Qm 8 1,Qv 9 .geq 7 8,Qm 10 9,Bm 11 10 0,Bm 12 10 2,qb 13 10 (.bin .leq (.t 11) (.t 12)),Qp 14 10 13,Qm 6 14] [6] .ret)
theorem c127:FB 127 []=some (r127,s127):=by kernel_rfl
def r130:RL:=[(4,none)]
def s130:SCode:=qR [Qb 2 25 0,Qf 4] [1,2] (qR [Qa 5 20 2,Qo 6 5,qa 7 (.call (.f 127) [.t 6,qi 1,qi 1048576]),Qm 8 7,qb 9 8 (fa 21 2),qb 10 8 (lo 9),Bm 11 8 1,qb 12 8 (.call (.f 127) [.t 10,.t 11,qi 31]),Qp 13 8 12,Qm 4 13] [4] .ret)
theorem c130:FB 130 [2000002]=some (r130,s130):=by kernel_rfl
def r133:RL:=[(4,none)]
def s133:SCode:=qR [Qf 4] [0,1] (qs (qR [Qm 6 0,Qn 7 6,Qm 8 1,Qn 9 8,Qv 10 .neq 7 9] [0,1,10] (.cond (.t 10) (qR [Qf 4] [4] .ret) .skip)) (qs (qR [Qm 11 0,Qn 12 11,Qi 13 0] [0,1,12,13] (qs (.block 0 (.loop (qR [Qv 14 .lss 13 12] [0,1,12,13,14] (qs (qX 14) (qs (qs (.block 1 (qR [Qm 15 13,Qm 5 15] [0,1,5,12,13] (qs (.draw [Qm 16 0,Qm 17 5,Qx 18 2 16 17,Ql 19 2 18,Qm 20 1,Qm 21 5,Qx 22 2 20 21,Ql 23 2 22,qa 24 (.eqs true [1,2] (.t 19) (.t 23))] [0,1,12,13,24]) (.cond (.t 24) (qR [Qf 4] [4] .ret) .skip)))) (qr [] [0,1,12,13])) (qr [Qu 25 .add 13 1,Qm 13 25] [0,1,12,13])))))) (qr [] []))) (qR [Qt 4] [4] .ret)))
theorem c133:FB 133 []=some (r133,s133):=by kernel_rfl
def r139:RL:=[(2,some (true,25))]
def s139:SCode:=qR [Qb 1 25 0,qa 2 (.alloc 34 zItm)] [1,2] (qR [Qa 4 0 1,Qo 5 4,qa 6 (.build zItm [(0,(1,.t 5))]),qa 3 (.alloc 34 zItm),QS 25 3 6] [1,2,3] (qs (qR [Qa 7 0 1,Qo 8 7,Qu 9 .leq 8 6] [1,2,3,9] (.cond (.t 9) (.drawL [Qa 10 1 1,qa 11 (.loadF false 1 (.t 10)),Qa 12 16 1,qa 13 (.loadF false 1 (.t 12)),Qa 14 17 1,Qs 15 3 14,Qa 16 1 3,QS 1 16 11,Qa 17 16 3,QS 1 17 13,Qa 18 17 3,QS 3 18 15] [1,2,3]) (qr [Qa 19 22 1,Qo 20 19,Qa 21 22 3,QS 1 21 20] [1,2,3]))) (qs (qR [Qa 22 0 1,Qo 23 22] [1,2,3,23] (qs (.block 0 (qR [Qu 25 .eql 23 0,Qm 24 25] [1,2,3,23,24] (.cond (.t 24) (.drawL [Qa 26 3 1,qa 27 (.loadF false 1 (.t 26)),Qa 28 5 1,Qs 29 8 28,Qa 30 3 3,QS 1 30 27,Qa 31 5 3,QS 8 31 29] [2,3]) (qs (qR [Qu 33 .eql 23 2,Qm 32 33] [1,2,3,23,32] (.cond (.t 32) .skip (qr [Qu 34 .eql 23 3,Qm 32 34] [1,2,3,23,32]))) (.cond (.t 32) (.drawL [Qa 35 13 1,qa 36 (.loadF false 1 (.t 35)),Qa 37 14 1,qa 38 (.loadF false 1 (.t 37)),Qa 39 4 1,qa 40 (.loadF false 1 (.t 39)),Qa 41 13 3,QS 1 41 36,Qa 42 14 3,QS 1 42 38,Qa 43 4 3,QS 1 43 40] [2,3]) (qR [Qu 45 .eql 23 4,Qm 44 45] [1,2,3,23,44] (.cond (.t 44) (qr [Qa 46 14 1,Qo 47 46,Qa 48 14 3,QS 1 48 47] [2,3]) (qR [Qu 50 .eql 23 5,Qm 49 50] [1,2,3,23,49] (.cond (.t 49) (qr [Qa 51 15 1,Qo 52 51,Qa 53 15 3,QS 1 53 52] [2,3]) (qR [Qu 55 .eql 23 6,Qm 54 55] [1,2,3,23,54] (.cond (.t 54) (.drawL [Qa 56 2 1,qa 57 (.loadF false 1 (.t 56)),Qa 58 3 1,qa 59 (.loadF false 1 (.t 58)),Qa 60 2 3,QS 1 60 57,Qa 61 3 3,QS 1 61 59] [2,3]) (qs (qR [Qu 63 .eql 23 7,Qm 62 63] [1,2,3,23,62] (.cond (.t 62) .skip (qR [Qu 64 .eql 23 8,Qm 62 64] [1,2,3,23,62] (.cond (.t 62) .skip (qr [Qu 65 .eql 23 9,Qm 62 65] [1,2,3,23,62]))))) (.cond (.t 62) (.drawL [Qa 66 20 1,qa 67 (.loadF false 1 (.t 66)),Qa 68 21 1,qa 69 (.loadF false 1 (.t 68)),Qa 70 20 3,QS 1 70 67,Qa 71 21 3,QS 1 71 69] [2,3]) (qR [Qu 73 .eql 23 10,Qm 72 73] [1,2,3,23,72] (.cond (.t 72) (qr [Qa 74 23 1,Qo 75 74,Qa 76 23 3,QS 1 76 75] [2,3]) (qR [Qu 78 .eql 23 11,Qm 77 78] [1,2,3,77] (.cond (.t 77) (.drawL [Qa 79 20 1,qa 80 (.loadF false 1 (.t 79)),Qa 81 21 1,qa 82 (.loadF false 1 (.t 81)),Qa 83 24 1,qa 84 (.loadF false 1 (.t 83)),Qa 85 20 3,QS 1 85 80,Qa 86 21 3,QS 1 86 82,Qa 87 24 3,QS 1 87 84,Qa 88 22 3,⟨none,none,.store 1 (.t 88) (qi 0)⟩] [2,3]) .skip))))))))))))))))) (qr [] [2,3]))) (qR [Ql 89 25 3,QS 25 2 89] [2] .ret))))
theorem c139:FB 139 [2000001]=some (r139,s139):=by kernel_rfl
def r142:RL:=[(2,none)]
def s142:SCode:=qR [Qb 1 3 0,Qf 2] [1] (qs (qR [Qa 3 0 1,Qo 4 3] [1,4] (qs (.block 0 (qR [Qu 6 .eql 4 1,Qm 5 6] [1,4,5] (.cond (.t 5) (qR [Qa 7 1 1,Qo 8 7,qa 9 (.call (.f 137) [.t 8,qi 0,qi 1048576]),Qm 10 9,qb 11 10 (fa 2 1),qb 12 10 (lo 11),qb 13 10 (.bin .eql (.t 12) (.c (.str []))),Qp 14 10 13,Qm 2 14] [2] .ret) (qR [Qu 16 .eql 4 3,Qm 15 16] [1,4,15] (.cond (.t 15) (qR [Qa 17 1 1,Qo 18 17,Qu 19 .eql 18 0,Qm 20 19,qb 21 20 (fa 2 1),qb 22 20 (lo 21),qb 23 20 (.call (.f 141) [.t 22]),Qp 24 20 23,Qm 2 24] [2] .ret) (qs (qR [Qu 26 .eql 4 0,Qm 25 26] [1,4,25] (.cond (.t 25) .skip (qr [Qu 27 .eql 4 2,Qm 25 27] [1,25]))) (.cond (.t 25) (qR [Qa 28 1 1,Qo 29 28,Qu 30 .eql 29 0,Qm 31 30,qb 32 31 (fa 2 1),qb 33 31 (lo 32),qb 34 31 (.bin .eql (.t 33) (.c (.str []))),Qp 35 31 34,Qm 2 35] [2] .ret) .skip))))))) (qr [] []))) (qR [Qf 2] [2] .ret))
theorem c142:FB 142 [2000001]=some (r142,s142):=by kernel_rfl
def r145:RL:=[(4,none)]
def s145:SCode:=qR [Qf 4] [0,1] (qR [Qm 5 0,Q1 6 198 5,Qm 7 6,Bm 8 7 0,qb 9 7 (.len (.t 8)),Bm 10 7 1,qb 11 7 (.bin .geq (.t 9) (.t 10)),Qp 12 7 11,Qm 4 12] [4] .ret)
theorem c145:FB 145 []=some (r145,s145):=by kernel_rfl
def r178:RL:=[(2,none),(3,none)]
def s178:SCode:=qR [Qb 1 8 0,qa 2 (.mov (.c (.str []))),Qi 3 0] [1] (qR [Ql 6 8 1,Q1 7 212 6,Qm 4 7] [4] (qs (qR [Qm 8 4,Qn 9 8,Qu 10 .eql 9 0] [4,10] (.cond (.t 10) (qR [qa 2 (.mov (.c (.str []))),Qi 3 1] [2,3] .ret) .skip)) (qR [Qm 11 4,qa 12 (.call (.f 213) [.t 11,.c (.str [10])]),qa 13 (.bin .add (.t 12) (.c (.str [10]))),Qm 5 13] [5] (qs (qR [Qm 14 5,QN 15 14,Qu 16 .gtr 15 16384] [5,16] (.cond (.t 16) (qR [qa 2 (.mov (.c (.str []))),Qi 3 6] [2,3] .ret) .skip)) (qR [Qm 17 5,Qm 2 17,Qi 3 0] [2,3] .ret)))))
theorem c178:FB 178 [2000001]=some (r178,s178):=by kernel_rfl
def r190:RL:=[(4,none)]
def s190:SCode:=qR [Qf 4] [0,1] (qs (qR [Qm 6 0,Qn 7 6,Qm 8 1,Qn 9 8,Qv 10 .neq 7 9] [0,1,10] (.cond (.t 10) (qR [Qf 4] [4] .ret) .skip)) (qs (qR [Qi 5 0] [0,1,5] (qs (.block 0 (.loop (qs (qR [Qm 11 5,Qm 12 0,Qn 13 12,Qv 14 .lss 11 13] [0,1,5,14] (qX 14)) (qs (qs (.block 1 (qs (.draw [Qm 17 0,Qm 18 5,Qx 19 2 17 18,Ql 20 2 19,Qm 21 1,Qm 22 5,Qx 23 2 21 22,Ql 24 2 23,qa 25 (.eqs true [1,2] (.t 20) (.t 24))] [0,1,5,25]) (.cond (.t 25) (qR [Qf 4] [4] .ret) .skip))) (qr [] [0,1,5])) (qr [Qm 15 5,Qu 16 .add 15 1,Qm 5 16] [0,1,5]))))) (qr [] []))) (qR [Qt 4] [4] .ret)))
theorem c190:FB 190 []=some (r190,s190):=by kernel_rfl
def r193:RL:=[(2,none)]
def s193:SCode:=qR [Qb 1 2 0,Qf 2] [1] (qR [Qa 3 0 1,Qo 4 3,Qu 5 .eql 4 0,Qm 6 5,qb 7 6 (fa 1 1),qb 8 6 (lo 7),qb 9 6 (.bin .eql (.t 8) (.c (.str []))),Qp 10 6 9,Qm 2 10] [2] .ret)
theorem c193:FB 193 [2000001]=some (r193,s193):=by kernel_rfl
def r196:RL:=[(2,none)]
def s196:SCode:=qR [Qb 1 8 0,Qf 2] [1] (qR [Ql 3 8 1,Q1 4 224 3,Qm 5 4,qb 6 5 (lm 8 1),qb 7 5 (.call (.f 225) [.t 6]),qb 8 5 (.bin .leq (.t 7) (qi 8)),Qp 9 5 8,Qm 10 9,qb 11 10 (lm 8 1),qb 12 10 (.call (.f 226) [.t 11]),qb 13 10 (.bin .leq (.t 12) (qi 1024)),Qp 14 10 13,Qm 15 14,qb 16 15 (lm 8 1),qb 17 15 (.call (.f 227) [.t 16]),Qp 18 15 17,Qm 2 18] [2] .ret)
theorem c196:FB 196 [2000001]=some (r196,s196):=by kernel_rfl
def r199:RL:=[(2,none)]
def s199:SCode:=qR [Qi 2 0] [0] (qR [Qi 3 0] [0,3] (qs (qs (.block 0 (.loop (qs (qR [Qm 4 3,Qm 5 0,QN 6 5,Qv 7 .lss 4 6,Qm 8 7,Bm 9 8 0,Bm 10 8 3,qb 11 8 (.index (.t 9) (.t 10)),qb 12 8 (.bin .geq (.t 11) (.c (.int .u8 48))),Qp 13 8 12,Qm 14 13,Bm 15 14 0,Bm 16 14 3,qb 17 14 (.index (.t 15) (.t 16)),qb 18 14 (.bin .leq (.t 17) (.c (.int .u8 57))),Qp 19 14 18] [0,3,19] (qX 19)) (qs (.block 1 (qr [Qm 20 3,Qu 21 .add 20 1,Qm 3 21] [0,3])) (qr [] [0,3]))))) (qr [] [3])) (qR [Qm 22 3,Qm 2 22] [2] .ret)))
theorem c199:FB 199 []=some (r199,s199):=by kernel_rfl
def r205:RL:=[(4,none)]
def s205:SCode:=qR [Qf 4] [0,1] (qR [Qm 5 0,Qm 6 1,Q2 7 231 5 6,Qu 8 .geq 7 0,Qm 4 8] [4] .ret)
theorem c205:FB 205 []=some (r205,s205):=by kernel_rfl
def r208:RL:=[(4,none)]
def s208:SCode:=qR [Qi 4 0] [0,1] (qs (qR [Qm 6 0,Qn 7 6,Qi 8 0] [0,1,7,8] (qs (.block 0 (.loop (qR [Qv 9 .lss 8 7] [0,1,7,8,9] (qs (qX 9) (qs (qs (.block 1 (qR [Qm 10 8,Qm 5 10] [0,1,5,7,8] (qR [Qm 11 1,Qm 12 0,Qm 13 5,Qx 14 1 12 13,Qo 15 14,Qv 16 .eql 11 15] [0,1,5,7,8,16] (.cond (.t 16) (qR [Qm 17 5,Qm 4 17] [4] .ret) .skip)))) (qr [] [0,1,7,8])) (qr [Qu 18 .add 8 1,Qm 8 18] [0,1,7,8])))))) (qr [] []))) (qR [Qi 4 (-1)] [4] .ret))
theorem c208:FB 208 []=some (r208,s208):=by kernel_rfl
def r214:RL:=[(2,none)]
def s214:SCode:=qR [Qb 1 8 0,Qf 2] [1] (qR [qa 3 (.mov (.f 215))] [1,3] (qR [Qa 4 0 1,Ql 5 3 4,qa 6 (.build [.int .i64 0,.int .i64 0,.int .i64 0] []),qa 7 (.eqs false [1,1,1] (.t 5) (.t 6)),Qm 8 7,qb 9 8 (fa 5 1),qb 10 8 (lo 9),Bm 11 8 3,qb 12 8 (.call (.f 216) [.t 10,.t 11]),qb 13 8 (.not (.t 12)),Qp 14 8 13,Qm 15 14,qb 16 15 (fa 6 1),qb 17 15 (lo 16),Bm 18 15 3,qb 19 15 (.call (.f 216) [.t 17,.t 18]),qb 20 15 (.not (.t 19)),Qp 21 15 20,Qm 2 21] [2] .ret))
theorem c214:FB 214 [2000001]=some (r214,s214):=by kernel_rfl
def r223:RL:=[(4,none)]
def s223:SCode:=qR [Qb 2 8 0,Qz 4] [1,2] (qR [Ql 7 8 2,Qm 8 1,Q2 9 254 7 8,qa 10 (.buildS 9 1 1 [.str []] [(0,.t 9)]),Qm 5 10] [1,2,5] (qs (qR [Qi 6 0] [1,2,5,6] (qs (.block 0 (.loop (qs (qR [Qm 11 6,Qa 12 7 2,Qo 13 12,Qn 14 13,Qv 15 .lss 11 14] [1,2,5,6,15] (qX 15)) (qs (qs (.block 1 (qr [Qm 18 5,Qa 19 7 2,Qo 20 19,Qm 21 6,Qx 22 8 20 21,Ql 23 8 22,Qm 24 1,Qu 25 .add 24 1,Q2 26 223 23 25,Qw 27 9 1 16 18 26,Qm 5 27] [1,2,5,6])) (qr [] [1,2,5,6])) (qr [Qm 16 6,Qu 17 .add 16 1,Qm 6 17] [1,2,5,6]))))) (qr [] [5]))) (qR [Qm 28 5,Qm 4 28] [4] .ret)))
theorem c223:FB 223 [2000002]=some (r223,s223):=by kernel_rfl
def r226:RL:=[(2,none)]
def s226:SCode:=qR [Qb 1 8 0,Qi 2 0] [1] (qR [Qi 3 1] [1,3] (qs (qR [Qi 4 0] [1,3,4] (qs (.block 0 (.loop (qs (qR [Qm 5 4,Qa 6 7 1,Qo 7 6,Qn 8 7,Qv 9 .lss 5 8] [1,3,4,9] (qX 9)) (qs (qs (.block 1 (qr [Qm 12 3,Qa 13 7 1,Qo 14 13,Qm 15 4,Qx 16 8 14 15,Ql 17 8 16,Q1 18 226 17,Qv 19 .add 12 18,Qm 3 19] [1,3,4])) (qr [] [1,3,4])) (qr [Qm 10 4,Qu 11 .add 10 1,Qm 4 11] [1,3,4]))))) (qr [] [3]))) (qR [Qm 20 3,Qm 2 20] [2] .ret)))
theorem c226:FB 226 [2000001]=some (r226,s226):=by kernel_rfl
def r229:RL:=[(2,none)]
def s229:SCode:=qR [Qf 2] [0] (qs (qR [Qm 4 0,QN 5 4,Qu 6 .lss 5 1,Qm 7 6,Ym 8 7 0,qc 9 7 (.lenS (.t 8)),qc 10 7 (.bin .gtr (.t 9) (qi 24)),Qq 11 7 10] [0,11] (.cond (.t 11) (qR [Qf 2] [2] .ret) .skip)) (qs (qR [Qi 3 0] [0,3] (qs (.block 0 (.loop (qs (qR [Qm 12 3,Qm 13 0,QN 14 13,Qv 15 .lss 12 14] [0,3,15] (qX 15)) (qs (qs (.block 1 (qR [Qm 18 0,Qm 19 3,QI 20 18 19,qa 21 (.bin .lss (.t 20) (.c (.int .u8 33))),Qm 22 21,Ym 23 22 0,Ym 24 22 3,qc 25 22 (.index (.t 23) (.t 24)),qc 26 22 (.bin .gtr (.t 25) (.c (.int .u8 126))),Qq 27 22 26] [0,3,27] (.cond (.t 27) (qR [Qf 2] [2] .ret) .skip))) (qr [] [0,3])) (qr [Qm 16 3,Qu 17 .add 16 1,Qm 3 17] [0,3]))))) (qr [] []))) (qR [Qt 2] [2] .ret)))
theorem c229:FB 229 []=some (r229,s229):=by kernel_rfl
def r232:RL:=[(2,none)]
def s232:SCode:=qR [Qf 2] [0] (qR [Qm 3 0,qa 4 (.bin .lss (.t 3) (.c (.int .u8 33))),Qm 5 4,Ym 6 5 0,qc 7 5 (.bin .gtr (.t 6) (.c (.int .u8 126))),Qq 8 5 7,Qm 2 8] [2] .ret)
theorem c232:FB 232 []=some (r232,s232):=by kernel_rfl
def r244:RL:=[]
def s244:SCode:=qR [Qb 4 8 0] [1,2,3,4] (qs (.drawT (.step (Qs 9 8 4) (.step (Qm 10 1) (.both (.step (Qo 8 2) (.step (Q2 11 245 9 10) (.step (qa 12 (.buildS 9 1 1 [.str []] [(0,.t 11)])) (.step (Qw 13 9 1 16 8 12) (.step (QS 1 2 13) .done))))) (.step (Q2 11 245 9 10) (.both (.step (Qo 8 2) (.step (qa 12 (.buildS 9 1 1 [.str []] [(0,.t 11)])) (.step (Qw 13 9 1 16 8 12) (.step (QS 1 2 13) .done)))) (.step (qa 12 (.buildS 9 1 1 [.str []] [(0,.t 11)])) (.step (Qo 8 2) (.step (Qw 13 9 1 16 8 12) (.step (QS 1 2 13) .done))))))))) [1,3,4]) (qR [Qa 14 7 4,Qo 15 14,Qn 16 15,Qi 17 0] [1,3,15,16,17] (qs (.block 0 (.loop (qR [Qv 18 .lss 17 16] [1,3,15,16,17,18] (qs (qX 18) (qs (qs (.block 1 (qR [Qx 19 8 15 17,Ql 20 8 19,QU 7 27,QS 8 7 20] [1,3,7,15,16,17] (qr [Qo 21 3,Ql 22 8 7,Qm 23 1,Qu 24 .add 23 1,qa 25 (.call (.t 21) [.t 22,.t 24])] [1,3,15,16,17]))) (qr [] [1,3,15,16,17])) (qr [Qu 26 .add 17 1,Qm 17 26] [1,3,15,16,17])))))) (qr [] []))))
theorem c244:FB 244 [2000004]=some (r244,s244):=by kernel_rfl
def r253:RL:=[(2,none)]
def s253:SCode:=qR [Qb 1 8 0,Qf 2] [1] (qs (qR [Qa 3 3 1,Qo 4 3,Qu 5 .eql 4 0] [1,5] (.cond (.t 5) (qR [Qa 6 4 1,Qo 7 6,qa 8 (.bin .eql (.t 7) (.c (.str []))),Qm 9 8,qb 10 9 (fa 5 1),qb 11 9 (lo 10),qb 12 9 (.len (.t 11)),qb 13 9 (.bin .eql (.t 12) (qi 0)),Qp 14 9 13,Qm 15 14,qb 16 15 (fa 6 1),qb 17 15 (lo 16),qb 18 15 (.len (.t 17)),qb 19 15 (.bin .eql (.t 18) (qi 0)),Qp 20 15 19,Qm 2 20] [2] .ret) .skip)) (qR [Qa 21 3 1,Qo 22 21,Qu 23 .gtr 22 0,Qm 24 23,qb 25 24 (fa 3 1),qb 26 24 (lo 25),qb 27 24 (.bin .leq (.t 26) (qi 7)),Qp 28 24 27,Qm 29 28,qb 30 29 (fa 4 1),qb 31 29 (lo 30),qb 32 29 (.call (.f 146) [.t 31]),Qp 33 29 32,Qm 34 33,qb 35 34 (fa 5 1),qb 36 34 (lo 35),qb 37 34 (.call (.f 268) [.t 36]),Qp 38 34 37,Qm 39 38,qb 40 39 (fa 6 1),qb 41 39 (lo 40),qb 42 39 (.call (.f 268) [.t 41]),Qp 43 39 42,Qm 2 43] [2] .ret))
theorem c253:FB 253 [2000001]=some (r253,s253):=by kernel_rfl
def r256:RL:=[(4,none)]
def s256:SCode:=qR [Qf 4] [0,1] (qs (qR [Qm 5 0] [1,5] (qs (.block 0 (qR [Qu 7 .eql 5 0,Qm 6 7] [1,5,6] (.cond (.t 6) (qR [Qm 8 1,Qu 9 .eql 8 1,Qm 10 9,Ym 11 10 1,qc 12 10 (.bin .eql (.t 11) (qi 2)),Qq 13 10 12,Qm 4 13] [4] .ret) (qR [Qu 15 .eql 5 1,Qm 14 15] [1,5,14] (.cond (.t 14) (qR [Qm 16 1,Qu 17 .eql 16 2,Qm 4 17] [4] .ret) (qs (qR [Qu 19 .eql 5 2,Qm 18 19] [1,5,18] (.cond (.t 18) .skip (qr [Qu 20 .eql 5 3,Qm 18 20] [1,5,18]))) (.cond (.t 18) (qR [Qm 21 1,Qu 22 .eql 21 3,Qm 23 22,Ym 24 23 1,qc 25 23 (.bin .eql (.t 24) (qi 4)),Qq 26 23 25,Qm 27 26,Ym 28 27 1,qc 29 27 (.bin .eql (.t 28) (qi 7)),Qq 30 27 29,Qm 4 30] [4] .ret) (qR [Qu 32 .eql 5 4,Qm 31 32] [1,5,31] (.cond (.t 31) (qR [Qm 33 1,Qu 34 .eql 33 5,Qm 4 34] [4] .ret) (qR [Qu 36 .eql 5 5,Qm 35 36] [1,35] (.cond (.t 35) (qR [Qm 37 1,Qu 38 .eql 37 6,Qm 4 38] [4] .ret) .skip))))))))))) (qr [] []))) (qR [Qf 4] [4] .ret))
theorem c256:FB 256 []=some (r256,s256):=by kernel_rfl
def r259:RL:=[(4,none)]
def s259:SCode:=qR [QB 2 27 8 0,Qf 4] [1,2] (qR [qa 5 (.build [.int .i64 0,.int .i64 0,.int .i64 0] []),Qa 6 0 2,QS 3 6 5,Qa 7 7 2,⟨none,none,.store 1 (.t 7) (.c .nil)⟩] [1,2] (qR [Qm 8 1,Qu 9 .geq 8 0,Qm 10 9,Bm 11 10 1,qb 12 10 (.bin .leq (.t 11) (qi 8)),Qp 13 10 12,Qm 14 13,qb 15 14 (lm 8 2),qb 16 14 (.call (.f 243) [.t 15]),qb 17 14 (.call (.f 34) [.t 16]),Qp 18 14 17,Qm 4 18] [4] .ret))
theorem c259:FB 259 []=some (r259,s259):=by kernel_rfl
def r268:RL:=[(2,none)]
def s268:SCode:=qR [Qf 2] [0] (qs (qR [Qi 3 0] [0,3] (qs (.block 0 (.loop (qs (qR [Qm 4 3,Qm 5 0,Qn 6 5,Qv 7 .lss 4 6] [0,3,7] (qX 7)) (qs (qs (.block 1 (qR [Qm 10 0,Qm 11 3,Qx 12 4 10 11,Qa 13 0 12,Qo 14 13,Q1 15 278 14,Qr 16 15] [0,3,16] (.cond (.t 16) (qR [Qf 2] [2] .ret) .skip))) (qr [] [0,3])) (qr [Qm 8 3,Qu 9 .add 8 1,Qm 3 9] [0,3]))))) (qr [] [0]))) (qR [Qm 17 0,Qn 18 17,Qu 19 .leq 18 256,Qm 2 19] [2] .ret))
theorem c268:FB 268 []=some (r268,s268):=by kernel_rfl
def r271:RL:=[(2,none)]
def s271:SCode:=qR [Qf 2] [0] (qR [Qm 3 0,Qn 4 3,Qu 5 .leq 4 256,Qm 6 5,Bm 7 6 0,qb 8 6 (.call (.f 279) [.t 7]),qb 9 6 (.call (.f 198) [.t 8]),Qp 10 6 9,Qm 2 10] [2] .ret)
theorem c271:FB 271 []=some (r271,s271):=by kernel_rfl
def r301:RL:=[(2,some (true,25))]
def s301:SCode:=qR [Qb 1 25 0,qa 2 (.alloc 34 zItm)] [1,2] (qR [Qa 3 20 1,Qo 4 3,Qa 5 21 1,Qo 6 5,Qa 7 22 1,Qo 8 7,qa 9 (.build zItm [(20,(1,.t 4)),(21,(1,.t 6)),(22,(1,.t 8))]),QS 25 2 9] [2] .ret)
theorem c301:FB 301 [2000001]=some (r301,s301):=by kernel_rfl
end Go.Av
