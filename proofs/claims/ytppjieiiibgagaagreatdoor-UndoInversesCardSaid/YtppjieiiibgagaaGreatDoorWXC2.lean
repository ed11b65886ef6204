/-
  THE TRANSLATED CODE. Printed by mkcode2.py.
-/
import Derived.Test.YtppjieiiibgagaaGreatDoorWXDattoXCS
import Derived.Test.YtppjieiiibgagaaGreatDoorWXAv26toXGlob
import Derived.Test.YtppjieiiibgagaaGreatDoorProg
set_option linter.all false
namespace Go.Av
open Go List
abbrev Zb16:SOper:=qa 31 (.buildS 27 8 1 zU [(0,.t 30)])
abbrev Zb15:SCode:=qr [Qu 18 .add 8 1,Qm 8 18] [0,1,7,8]
abbrev Zb14:List SOper:=[Qb 1 25 0,Qf 2]
abbrev Zb13:SCode:=qr [Qm 10 4,Qu 11 .add 10 1,Qm 4 11] [1,3,4]
abbrev Zb5:DT:=.step (Qx 48 8 40 41) (.step (QS 8 48 47) .done)
abbrev Zb12:DT:=.step (Q1 47 385 46) Zb5
abbrev Zb11:SCode:=qR [Qt 2] [2] .ret
abbrev Zb10:SCode:=.cond (.t 16) (qR [Qm 17 5,Qm 4 17] [4] .ret) .skip
abbrev Zb4:SOper:=qa 15 (.build zU [(3,(1,.t 6)),(4,(1,.t 8)),(5,(1,.t 11)),(6,(1,.t 14))])
abbrev Zb9:DT:=.step (Q1 14 260 13) (.step Zb4 (.step (QS 8 3 15) .done))
abbrev Zb8:SCode:=qR [Qm 5 4,Qa 6 7 1,Qo 7 6,Qn 8 7,Qv 9 .lss 5 8] [1,3,4,9] (qX 9)
abbrev Zb7:DT:=.step (Qw 32 27 8 120 24 31) (.step (Qa 33 7 3) (.step (QS 1 33 32) .done))
abbrev Zb6:SCode:=qR [Qm 6 0,Qn 7 6,Qm 8 1,Qn 9 8,Qv 10 .neq 7 9] [0,1,10] (.cond (.t 10) (qR [Qf 4] [4] .ret) .skip)
abbrev Zb3:List AV:=[.i 0,.i 0,.i 0]
abbrev Zb2:SCode:=qR [Qf 2] [2] .ret
abbrev Zb1:List AV:=[.sc .nilFunc,.sc .nilFunc]
abbrev Zb0:DT:=.step Zb16 Zb7
def r49:RL:=[(6,none)]
def s49:SCode:=qR [Qb 3 8 0,Qi 6 0] [1,2,3] (qs (qR [Qm 9 1,Qu 10 .gtr 9 20] [1,2,3,10] (.cond (.t 10) (qR [Qm 11 2,Qu 12 .add 11 1,Qm 6 12] [6] .ret) .skip)) (qR [Qi 7 1] [1,2,3,7] (qs (qR [Qi 8 0] [1,2,3,7,8] (qs (.block 0 (.loop (qs (qR [Qm 13 8,Qa 14 7 3,Qo 15 14,Qn 16 15,Qv 17 .lss 13 16,Qm 18 17,Bm 19 18 7,Bm 20 18 2,qb 21 18 (.bin .leq (.t 19) (.t 20)),Qp 22 18 21] [1,2,3,7,8,22] (qX 22)) (qs (qs (.block 1 (qr [Qm 25 7,Qa 26 7 3,Qo 27 26,Qm 28 8,Qx 29 8 27 28,Ql 30 8 29,Qm 31 1,Qu 32 .add 31 1,Qm 33 2,Qm 34 7,Qv 35 .sub 33 34,Q3 36 49 30 32 35,Qv 37 .add 25 36,Qm 7 37] [1,2,3,7,8])) (qr [] [1,2,3,7,8])) (qr [Qm 23 8,Qu 24 .add 23 1,Qm 8 24] [1,2,3,7,8]))))) (qr [] [7]))) (qR [Qm 38 7,Qm 6 38] [6] .ret))))
def c49:FB 49 [2000003]=some (r49,s49):=by kernel_rfl
def r52:RL:=[(2,none)]
def s52:SCode:=qR Zb14 [1] (qs (qR [Qa 8 1 1,Qo 9 8,Qn 10 9,Qu 11 .gtr 10 12,Qm 12 11,qc 13 12 (fa 2 1),qc 14 12 (lo 13),qc 15 12 (.len (.t 14)),qc 16 12 (.bin .gtr (.t 15) (qi 12)),Qq 17 12 16,Qm 18 17,qc 19 18 (fa 13 1),qc 20 18 (lo 19),qc 21 18 (.len (.t 20)),qc 22 18 (.bin .gtr (.t 21) (qi 300)),Qq 23 18 22,Qm 24 23,qc 25 24 (fa 14 1),qc 26 24 (lo 25),qc 27 24 (.len (.t 26)),qc 28 24 (.bin .gtr (.t 27) (qi 300)),Qq 29 24 28,Qm 30 29,qc 31 30 (fa 15 1),qc 32 30 (lo 31),qc 33 30 (.lenS (.t 32)),qc 34 30 (.bin .gtr (.t 33) (qi 100)),Qq 35 30 34,Qm 36 35,qc 37 36 (fa 16 1),qc 38 36 (lo 37),qc 39 36 (.lenS (.t 38)),qc 40 36 (.bin .gtr (.t 39) (qi 100)),Qq 41 36 40,Qm 42 41,qc 43 42 (fa 17 1),qc 44 42 (fa 2 43),qc 45 42 (lo 44),qc 46 42 (.lenS (.t 45)),qc 47 42 (.bin .gtr (.t 46) (qi 100)),Qq 48 42 47,Qm 49 48,qc 50 49 (fa 23 1),qc 51 49 (lo 50),qc 52 49 (.lenS (.t 51)),qc 53 49 (.bin .gtr (.t 52) (qi 100)),Qq 54 49 53,Qm 55 54,qc 56 55 (fa 24 1),qc 57 55 (lo 56),qc 58 55 (.len (.t 57)),qc 59 55 (.bin .gtr (.t 58) (qi 2)),Qq 60 55 59,Qm 61 60,qc 62 61 (fa 5 1),qc 63 61 (lm 8 62),qc 64 61 (.call (.f 17) [.t 63,qi 30]),qc 65 61 (.not (.t 64)),Qq 66 61 65] [1,66] (.cond (.t 66) Zb2 .skip)) (qs (qR [Qi 3 0] [1,3] (qs (.block 0 (.loop (qs (qR [Qm 67 3,Qa 68 13 1,Qo 69 68,Qn 70 69,Qv 71 .lss 67 70] [1,3,71] (qX 71)) (qs (qs (.block 1 (qR [Qa 74 13 1,Qo 75 74,Qm 76 3,Qx 77 1 75 76,Qo 78 77,QN 79 78,Qu 80 .gtr 79 100] [1,3,80] (.cond (.t 80) Zb2 .skip))) (qr [] [1,3])) (qr [Qm 72 3,Qu 73 .add 72 1,Qm 3 73] [1,3]))))) (qr [] [1]))) (qs (qR [Qi 4 0] [1,4] (qs (.block 2 (.loop (qs (qR [Qm 81 4,Qa 82 14 1,Qo 83 82,Qn 84 83,Qv 85 .lss 81 84] [1,4,85] (.cond (.t 85) .skip (.exit 2))) (qs (qs (.block 3 (qR [Qa 88 14 1,Qo 89 88,Qm 90 4,Qx 91 1 89 90,Qo 92 91,QN 93 92,Qu 94 .gtr 93 100] [1,4,94] (.cond (.t 94) Zb2 .skip))) (qr [] [1,4])) (qr [Qm 86 4,Qu 87 .add 86 1,Qm 4 87] [1,4]))))) (qr [] [1]))) (qs (qR [Qi 5 0] [1,5] (qs (.block 4 (.loop (qs (qR [Qm 95 5,Qa 96 1 1,Qo 97 96,Qn 98 97,Qv 99 .lss 95 98] [1,5,99] (.cond (.t 99) .skip (.exit 4))) (qs (qs (.block 5 (qR [Qa 102 1 1,Qo 103 102,Qm 104 5,Qx 105 2 103 104,Qa 106 1 105,Qo 107 106,QN 108 107,Qu 109 .gtr 108 100] [1,5,109] (.cond (.t 109) Zb2 .skip))) (qr [] [1,5])) (qr [Qm 100 5,Qu 101 .add 100 1,Qm 5 101] [1,5]))))) (qr [] [1]))) (qs (qR [Qi 6 0] [1,6] (qs (.block 6 (.loop (qs (qR [Qm 110 6,Qa 111 2 1,Qo 112 111,Qn 113 112,Qv 114 .lss 110 113] [1,6,114] (.cond (.t 114) .skip (.exit 6))) (qs (qs (.block 7 (qR [Qa 117 2 1,Qo 118 117,Qm 119 6,Qx 120 2 118 119,Qa 121 1 120,Qo 122 121,QN 123 122,Qu 124 .gtr 123 100] [1,6,124] (.cond (.t 124) Zb2 .skip))) (qr [] [1,6])) (qr [Qm 115 6,Qu 116 .add 115 1,Qm 6 116] [1,6]))))) (qr [] [1]))) (qs (qR [Qi 7 0] [1,7] (qs (.block 8 (.loop (qs (qR [Qm 125 7,Qa 126 24 1,Qo 127 126,Qn 128 127,Qv 129 .lss 125 128] [1,7,129] (.cond (.t 129) .skip (.exit 8))) (qs (qs (.block 9 (qR [Qa 132 24 1,Qo 133 132,Qm 134 7,Qx 135 25 133 134,Qa 136 24 135,Qo 137 136,Qn 138 137,Qu 139 .gtr 138 0,Qm 140 139,qb 141 140 (fa 24 1),qb 142 140 (lo 141),Bm 143 140 7,qb 144 140 (.indexA 25 (.t 142) (.t 143)),qb 145 140 (fa 24 144),qb 146 140 (lo 145),qb 147 140 (.indexA 25 (.t 146) (qi 0)),qb 148 140 (fa 24 147),qb 149 140 (lo 148),qb 150 140 (.len (.t 149)),qb 151 140 (.bin .gtr (.t 150) (qi 0)),Qp 152 140 151,Qm 153 152,qc 154 153 (fa 24 1),qc 155 153 (lo 154),Ym 156 153 7,qc 157 153 (.indexA 25 (.t 155) (.t 156)),qc 158 153 (lm 25 157),qc 159 153 (.call (.f 52) [.t 158]),qc 160 153 (.not (.t 159)),Qq 161 153 160] [1,7,161] (.cond (.t 161) Zb2 .skip))) (qr [] [1,7])) (qr [Qm 130 7,Qu 131 .add 130 1,Qm 7 131] [1,7]))))) (qr [] []))) Zb11))))))
def c52:FB 52 [2000001]=some (r52,s52):=by kernel_rfl
def r73:RL:=[(2,none)]
def s73:SCode:=qR [Qf 2] [0] (qs (qR [Qm 4 0,Qn 5 4,Qu 6 .gtr 5 9] [0,6] (.cond (.t 6) Zb2 .skip)) (qs (qR [Qi 3 0] [0,3] (qs (.block 0 (.loop (qs (qR [Qm 7 3,Qm 8 0,Qn 9 8,Qv 10 .lss 7 9] [0,3,10] (qX 10)) (qs (qs (.block 1 (qs (qR [Qm 13 3,Qu 14 .eql 13 0,Qm 15 14,Bm 16 15 0,Bm 17 15 3,qb 18 15 (.indexA 2 (.t 16) (.t 17)),qb 19 15 (lm 2 18),qb 20 15 (.call (.f 136) [.t 19]),Qp 21 15 20] [0,3,21] (.cond (.t 21) (.exit 1) .skip)) (qR [Qm 22 0,Qm 23 3,Qx 24 2 22 23,Qa 25 0 24,Qo 26 25,Qu 27 .lss 26 1,Qm 28 27,Ym 29 28 0,Ym 30 28 3,qc 31 28 (.indexA 2 (.t 29) (.t 30)),qc 32 28 (fa 0 31),qc 33 28 (lo 32),qc 34 28 (.bin .gtr (.t 33) (qi 7)),Qq 35 28 34,Qm 36 35,Ym 37 36 0,Ym 38 36 3,qc 39 36 (.indexA 2 (.t 37) (.t 38)),qc 40 36 (fa 1 39),qc 41 36 (lo 40),qc 42 36 (.call (.f 79) [.t 41]),qc 43 36 (.not (.t 42)),Qq 44 36 43] [0,3,44] (.cond (.t 44) Zb2 .skip)))) (qr [] [0,3])) (qr [Qm 11 3,Qu 12 .add 11 1,Qm 3 12] [0,3]))))) (qr [] []))) Zb11))
def c73:FB 73 []=some (r73,s73):=by kernel_rfl
def r76:RL:=[(2,none),(3,none)]
def s76:SCode:=qR [Qb 1 8 0,qa 2 (.mov (.c (.str []))),Qi 3 0] [1] (qs (qR [Ql 7 8 1,Q1 8 137 7,Qr 9 8] [1,9] (.cond (.t 9) (qR [qa 2 (.mov (.c (.str []))),Qi 3 1] [2,3] .ret) .skip)) (qR [Ql 10 8 1,Q1 11 138 10,Qm 4 11] [4] (qR [qa 5 (.mov (.c (.str [])))] [4,5] (qs (qR [Qi 6 0] [4,5,6] (qs (.block 0 (.loop (qs (qR [Qm 12 6,Qm 13 4,Qn 14 13,Qv 15 .lss 12 14] [4,5,6,15] (qX 15)) (qs (qs (.block 1 (qr [Qm 18 5,Qm 19 4,Qm 20 6,Qx 21 1 19 20,Qo 22 21,Qv 23 .add 18 22,qa 24 (.bin .add (.t 23) (.c (.str [10]))),Qm 5 24] [4,5,6])) (qr [] [4,5,6])) (qr [Qm 16 6,Qu 17 .add 16 1,Qm 6 17] [4,5,6]))))) (qr [] [5]))) (qs (qR [Qm 25 5,QN 26 25,Qu 27 .gtr 26 16384] [5,27] (.cond (.t 27) (qR [qa 2 (.mov (.c (.str []))),Qi 3 6] [2,3] .ret) .skip)) (qR [Qm 28 5,Qm 2 28,Qi 3 0] [2,3] .ret))))))
def c76:FB 76 [2000001]=some (r76,s76):=by kernel_rfl
def r79:RL:=[(2,none)]
def s79:SCode:=qR [Qf 2] [0] (qR [Qm 5 0,Q1 6 141 5,Qm 3 6] [0,3] (qs (qR [Qm 7 3,Qu 8 .lss 7 1,Qm 9 8,Ym 10 9 3,qc 11 9 (.bin .gtr (.t 10) (qi 4)),Qq 12 9 11,Qm 13 12,Ym 14 13 0,qc 15 13 (.index (.t 14) (qi 0)),qc 16 13 (.bin .eql (.t 15) (.c (.int .u8 48))),Qq 17 13 16,Qm 18 17,Ym 19 18 0,qc 20 18 (.lenS (.t 19)),Ym 21 18 3,qc 22 18 (.bin .sub (.t 20) (.t 21)),qc 23 18 (.bin .gtr (.t 22) (qi 3)),Qq 24 18 23] [0,3,24] (.cond (.t 24) Zb2 .skip)) (qs (qR [Qm 25 3,Qm 4 25] [0,4] (qs (.block 0 (.loop (qs (qR [Qm 26 4,Qm 27 0,QN 28 27,Qv 29 .lss 26 28] [0,4,29] (qX 29)) (qs (qs (.block 1 (qR [Qm 32 0,Qm 33 4,QI 34 32 33,qa 35 (.bin .lss (.t 34) (.c (.int .u8 65))),Qm 36 35,Ym 37 36 0,Ym 38 36 4,qc 39 36 (.index (.t 37) (.t 38)),qc 40 36 (.bin .gtr (.t 39) (.c (.int .u8 90))),Qq 41 36 40] [0,4,41] (.cond (.t 41) Zb2 .skip))) (qr [] [0,4])) (qr [Qm 30 4,Qu 31 .add 30 1,Qm 4 31] [0,4]))))) (qr [] []))) Zb11)))
def c79:FB 79 []=some (r79,s79):=by kernel_rfl
def r94:RL:=[(4,none)]
def s94:SCode:=qR [Qb 2 25 0,Qb 3 25 1,Qf 4] [2,3] (qR [Qa 8 0 2,Qo 9 8,Qa 10 0 3,Qo 11 10,Qv 12 .eql 9 11,Qm 13 12,qb 14 13 (fa 3 2),qb 15 13 (lo 14),qb 16 13 (fa 3 3),qb 17 13 (lo 16),qb 18 13 (.bin .eql (.t 15) (.t 17)),Qp 19 13 18,Qm 20 19,qb 21 20 (fa 4 2),qb 22 20 (lo 21),qb 23 20 (fa 4 3),qb 24 20 (lo 23),qb 25 20 (.bin .eql (.t 22) (.t 24)),Qp 26 20 25,Qm 27 26,qb 28 27 (fa 20 2),qb 29 27 (lo 28),qb 30 27 (fa 20 3),qb 31 27 (lo 30),qb 32 27 (.bin .eql (.t 29) (.t 31)),Qp 33 27 32,Qm 34 33,qb 35 34 (fa 21 2),qb 36 34 (lo 35),qb 37 34 (fa 21 3),qb 38 34 (lo 37),qb 39 34 (.bin .eql (.t 36) (.t 38)),Qp 40 34 39,Qm 41 40,qb 42 41 (fa 22 2),qb 43 41 (lo 42),qb 44 41 (fa 22 3),qb 45 41 (lo 44),qb 46 41 (.bin .eql (.t 43) (.t 45)),Qp 47 41 46,Qm 5 47] [2,3,5] (qR [Qa 48 15 2,Qo 49 48,Qa 50 15 3,Qo 51 50,Qv 52 .eql 49 51,Qm 53 52,qb 54 53 (fa 16 2),qb 55 53 (lo 54),qb 56 53 (fa 16 3),qb 57 53 (lo 56),qb 58 53 (.bin .eql (.t 55) (.t 57)),Qp 59 53 58,Qm 60 59,qb 61 60 (fa 23 2),qb 62 60 (lo 61),qb 63 60 (fa 23 3),qb 64 60 (lo 63),qb 65 60 (.bin .eql (.t 62) (.t 64)),Qp 66 60 65,Qm 67 66,qb 68 67 (fa 17 2),qb 69 67 (lm 3 68),qb 70 67 (fa 17 3),qb 71 67 (lm 3 70),qb 72 67 (.eqs false [1,1,2] (.t 69) (.t 71)),Qp 73 67 72,Qm 6 73] [2,3,5,6] (qR [Qa 74 1 2,Qo 75 74,Qa 76 1 3,Qo 77 76,Q2 78 159 75 77,Qm 79 78,qb 80 79 (fa 2 2),qb 81 79 (lo 80),qb 82 79 (fa 2 3),qb 83 79 (lo 82),qb 84 79 (.call (.f 159) [.t 81,.t 83]),Qp 85 79 84,Qm 86 85,qb 87 86 (fa 13 2),qb 88 86 (lo 87),qb 89 86 (fa 13 3),qb 90 86 (lo 89),qb 91 86 (.call (.f 168) [.t 88,.t 90]),Qp 92 86 91,Qm 93 92,qb 94 93 (fa 14 2),qb 95 93 (lo 94),qb 96 93 (fa 14 3),qb 97 93 (lo 96),qb 98 93 (.call (.f 168) [.t 95,.t 97]),Qp 99 93 98,Qm 7 99] [2,3,5,6,7] (qR [Qm 100 5,Qm 101 100,Bm 102 101 6,Qp 103 101 102,Qm 104 103,Bm 105 104 7,Qp 106 104 105,Qm 107 106,qb 108 107 (fa 5 2),qb 109 107 (lm 8 108),qb 110 107 (fa 5 3),qb 111 107 (lm 8 110),qb 112 107 (.call (.f 169) [.t 109,.t 111]),Qp 113 107 112,Qm 114 113,qb 115 114 (fa 24 2),qb 116 114 (lo 115),qb 117 114 (fa 24 3),qb 118 114 (lo 117),qb 119 114 (.call (.f 170) [.t 116,.t 118,.f 94]),Qp 120 114 119,Qm 4 120] [4] .ret))))
def c94:FB 94 [2000002,2000003]=some (r94,s94):=by kernel_rfl
def r103:RL:=[(4,none)]
def s103:SCode:=qR [Qf 4] [0,1] (qs Zb6 (qs (qR [Qi 5 0] [0,1,5] (qs (.block 0 (.loop (qs (qR [Qm 11 5,Qm 12 0,Qn 13 12,Qv 14 .lss 11 13] [0,1,5,14] (qX 14)) (qs (qs (.block 1 (qs (.draw [Qm 17 0,Qm 18 5,Qx 19 2 17 18,Ql 20 2 19,Qm 21 1,Qm 22 5,Qx 23 2 21 22,Ql 24 2 23,qa 25 (.eqs true [1,2] (.t 20) (.t 24))] [0,1,5,25]) (.cond (.t 25) (qR [Qf 4] [4] .ret) .skip))) (qr [] [0,1,5])) (qr [Qm 15 5,Qu 16 .add 15 1,Qm 5 16] [0,1,5]))))) (qr [] []))) (qR [Qt 4] [4] .ret)))
def c103:FB 103 []=some (r103,s103):=by kernel_rfl
def r106:RL:=[(2,none)]
def s106:SCode:=qR [Qb 1 8 0,Qf 2] [1] (qR [Ql 3 8 1,Q1 4 173 3,Qm 5 4,qb 6 5 (lm 8 1),qb 7 5 (.call (.f 174) [.t 6]),qb 8 5 (.bin .leq (.t 7) (qi 8)),Qp 9 5 8,Qm 10 9,qb 11 10 (lm 8 1),qb 12 10 (.call (.f 175) [.t 11]),qb 13 10 (.bin .leq (.t 12) (qi 1024)),Qp 14 10 13,Qm 15 14,qb 16 15 (lm 8 1),qb 17 15 (.call (.f 176) [.t 16]),Qp 18 15 17,Qm 2 18] [2] .ret)
def c106:FB 106 [2000001]=some (r106,s106):=by kernel_rfl
def r130:RL:=[(0,none)]
def s130:SCode:=qR [qa 0 (.mov (.c (.sc (.map none))))] [] (qR [qa 1 (.raw (.makeMap 172 none)),qa 2 (.build Zb1 [(0,(1,.f 227)),(1,(1,.f 228))]),⟨none,none,.raw (.insert 172 (.tmp 1) (.const (.i 0)) (.tmp 2))⟩,qa 3 (.build Zb1 [(0,(1,.f 231)),(1,(1,.f 232))]),⟨none,none,.raw (.insert 172 (.tmp 1) (.const (.i 1)) (.tmp 3))⟩,qa 4 (.build Zb1 [(0,(1,.f 233)),(1,(1,.f 234))]),⟨none,none,.raw (.insert 172 (.tmp 1) (.const (.i 2)) (.tmp 4))⟩,qa 5 (.build Zb1 [(0,(1,.f 237)),(1,(1,.f 238))]),⟨none,none,.raw (.insert 172 (.tmp 1) (.const (.i 3)) (.tmp 5))⟩,qa 6 (.build Zb1 [(0,(1,.f 239)),(1,(1,.f 240))]),⟨none,none,.raw (.insert 172 (.tmp 1) (.const (.i 4)) (.tmp 6))⟩,qa 7 (.build Zb1 [(0,(1,.f 241)),(1,(1,.f 242))]),⟨none,none,.raw (.insert 172 (.tmp 1) (.const (.i 5)) (.tmp 7))⟩,qa 8 (.build Zb1 [(0,(1,.f 243)),(1,(1,.f 244))]),⟨none,none,.raw (.insert 172 (.tmp 1) (.const (.i 6)) (.tmp 8))⟩,qa 9 (.load true 2 (.g 1)),⟨none,none,.raw (.insert 172 (.tmp 1) (.const (.i 7)) (.tmp 9))⟩,qa 10 (.load true 2 (.g 1)),⟨none,none,.raw (.insert 172 (.tmp 1) (.const (.i 8)) (.tmp 10))⟩,qa 11 (.load true 2 (.g 1)),⟨none,none,.raw (.insert 172 (.tmp 1) (.const (.i 9)) (.tmp 11))⟩,qa 12 (.build Zb1 [(0,(1,.f 245)),(1,(1,.f 246))]),⟨none,none,.raw (.insert 172 (.tmp 1) (.const (.i 10)) (.tmp 12))⟩,qa 13 (.build Zb1 [(0,(1,.f 248)),(1,(1,.f 249))]),⟨none,none,.raw (.insert 172 (.tmp 1) (.const (.i 11)) (.tmp 13))⟩,Qm 14 1,Qm 0 14] [0] .ret)
def c130:FB 130 []=some (r130,s130):=by kernel_rfl
def r133:RL:=[(2,none)]
def s133:SCode:=qR [Qb 1 3 0,Qf 2] [1] (qs (qR [Qa 3 0 1,Qo 4 3] [1,4] (qs (.block 0 (qs (qR [Qu 6 .eql 4 0,Qm 5 6] [1,4,5] (.cond (.t 5) .skip (qr [Qu 7 .eql 4 2,Qm 5 7] [1,4,5]))) (.cond (.t 5) (qR [Qa 8 1 1,Qo 9 8,Qu 10 .eql 9 0,Qm 11 10,qb 12 11 (fa 2 1),qb 13 11 (lo 12),qb 14 11 (.bin .eql (.t 13) (.c (.str []))),Qp 15 11 14,Qm 2 15] [2] .ret) (qR [Qu 17 .eql 4 1,Qm 16 17] [1,4,16] (.cond (.t 16) (qR [Qa 18 1 1,Qo 19 18,qa 20 (.call (.f 247) [.t 19,qi 0,qi 1048576]),Qm 21 20,qb 22 21 (fa 2 1),qb 23 21 (lo 22),qb 24 21 (.bin .eql (.t 23) (.c (.str []))),Qp 25 21 24,Qm 2 25] [2] .ret) (qR [Qu 27 .eql 4 3,Qm 26 27] [1,26] (.cond (.t 26) (qR [Qa 28 1 1,Qo 29 28,Qu 30 .eql 29 0,Qm 31 30,qb 32 31 (fa 2 1),qb 33 31 (lo 32),qb 34 31 (.call (.f 132) [.t 33]),Qp 35 31 34,Qm 2 35] [2] .ret) .skip))))))) (qr [] []))) Zb2)
def c133:FB 133 [2000001]=some (r133,s133):=by kernel_rfl
def r136:RL:=[(2,none)]
def s136:SCode:=qR [Qb 1 2 0,Qf 2] [1] (qR [Qa 3 0 1,Qo 4 3,Qu 5 .eql 4 0,Qm 6 5,qb 7 6 (fa 1 1),qb 8 6 (lo 7),qb 9 6 (.bin .eql (.t 8) (.c (.str []))),Qp 10 6 9,Qm 2 10] [2] .ret)
def c136:FB 136 [2000001]=some (r136,s136):=by kernel_rfl
def r139:RL:=[(2,some (true,8))]
def s139:SCode:=qR [Qb 1 8 0,QU 2 27] [1,2] (qs (.drawT (.step (Qa 5 3 1) (.step (qa 6 (.loadF false 1 (.t 5))) (.step (Qa 7 4 1) (.step (qa 8 (.loadF false 1 (.t 7))) (.step (Qa 9 5 1) (.step (qa 10 (.loadF false 1 (.t 9))) (.step (Qa 12 6 1) (.step (qa 13 (.loadF false 1 (.t 12))) (.both (.step (Q1 11 260 10) (.both (.step (Q1 14 260 13) (.step Zb4 (.step (QU 3 27) (.step (QS 8 3 15) .done)))) (.step (QU 3 27) Zb9))) (.step (QU 3 27) (.step (Q1 11 260 10) Zb9))))))))))) [1,2,3]) (qs (qR [Qi 4 0] [1,2,3,4] (qs (.block 0 (.loop (qs (qR [Qm 16 4,Qa 17 7 1,Qo 18 17,Qn 19 18,Qv 20 .lss 16 19] [1,2,3,4,20] (qX 20)) (qs (qs (.block 1 (.drawT (.step (Qa 23 7 3) (.step (Qa 25 7 1) (.step (qa 26 (.loadF false 1 (.t 25))) (.step (Qm 27 4) (.step (Qx 28 8 26 27) (.both (.step (Qo 24 23) (.step (Ql 29 8 28) (.step (Q1 30 139 29) Zb0))) (.step (Ql 29 8 28) (.both (.step (Qo 24 23) (.step (Q1 30 139 29) Zb0)) (.step (Q1 30 139 29) (.both (.step (Qo 24 23) Zb0) (.step Zb16 (.step (Qo 24 23) Zb7)))))))))))) [1,2,3,4])) (qr [] [1,2,3,4])) (qr [Qm 21 4,Qu 22 .add 21 1,Qm 4 22] [1,2,3,4]))))) (qr [] [2,3]))) (qR [Ql 34 8 3,QS 8 2 34] [2] .ret)))
def c139:FB 139 [2000001]=some (r139,s139):=by kernel_rfl
def r145:RL:=[(2,none)]
def s145:SCode:=qR [Qb 1 8 0,Qi 2 0] [1] (qR [Qi 3 1] [1,3] (qs (qR [Qi 4 0] [1,3,4] (qs (.block 0 (.loop (qs Zb8 (qs (qs (.block 1 (qr [Qm 12 3,Qa 13 7 1,Qo 14 13,Qm 15 4,Qx 16 8 14 15,Ql 17 8 16,Q1 18 145 17,Qv 19 .add 12 18,Qm 3 19] [1,3,4])) (qr [] [1,3,4])) Zb13)))) (qr [] [3]))) (qR [Qm 20 3,Qm 2 20] [2] .ret)))
def c145:FB 145 [2000001]=some (r145,s145):=by kernel_rfl
def r169:RL:=[(4,none)]
def s169:SCode:=qR [Qb 2 8 0,Qb 3 8 1,Qf 4] [2,3] (qR [Qa 5 0 2,Ql 6 3 5,Qa 7 0 3,Ql 8 3 7,qa 9 (.eqs false [1,1,1] (.t 6) (.t 8)),Qm 10 9,qb 11 10 (fa 3 2),qb 12 10 (lo 11),qb 13 10 (fa 3 3),qb 14 10 (lo 13),qb 15 10 (.bin .eql (.t 12) (.t 14)),Qp 16 10 15,Qm 17 16,qb 18 17 (fa 4 2),qb 19 17 (lo 18),qb 20 17 (fa 4 3),qb 21 17 (lo 20),qb 22 17 (.bin .eql (.t 19) (.t 21)),Qp 23 17 22,Qm 24 23,qb 25 24 (fa 5 2),qb 26 24 (lo 25),qb 27 24 (fa 5 3),qb 28 24 (lo 27),qb 29 24 (.call (.f 268) [.t 26,.t 28]),Qp 30 24 29,Qm 31 30,qb 32 31 (fa 6 2),qb 33 31 (lo 32),qb 34 31 (fa 6 3),qb 35 31 (lo 34),qb 36 31 (.call (.f 268) [.t 33,.t 35]),Qp 37 31 36,Qm 38 37,qb 39 38 (fa 7 2),qb 40 38 (lo 39),qb 41 38 (fa 7 3),qb 42 38 (lo 41),qb 43 38 (.call (.f 269) [.t 40,.t 42,.f 169]),Qp 44 38 43,Qm 4 44] [4] .ret)
def c169:FB 169 [2000002,2000003]=some (r169,s169):=by kernel_rfl
def r175:RL:=[(2,none)]
def s175:SCode:=qR [Qb 1 8 0,Qi 2 0] [1] (qR [Qi 3 1] [1,3] (qs (qR [Qi 4 0] [1,3,4] (qs (.block 0 (.loop (qs Zb8 (qs (qs (.block 1 (qr [Qm 12 3,Qa 13 7 1,Qo 14 13,Qm 15 4,Qx 16 8 14 15,Ql 17 8 16,Q1 18 175 17,Qv 19 .add 12 18,Qm 3 19] [1,3,4])) (qr [] [1,3,4])) Zb13)))) (qr [] [3]))) (qR [Qm 20 3,Qm 2 20] [2] .ret)))
def c175:FB 175 [2000001]=some (r175,s175):=by kernel_rfl
def r211:RL:=[(2,none)]
def s211:SCode:=qR [Qb 1 8 0,Qz 2] [1] (qR [qa 3 (.alloc 100 [.nil])] [1,3] (qR [Ql 4 8 1,qa 5 (.mkfun (.func 308) [] [.t 3]),Q2 6 306 4 5] [3] (qR [Qo 7 3,Qm 2 7] [2] .ret)))
def c211:FB 211 [2000001]=some (r211,s211):=by kernel_rfl
def r229:RL:=[(2,none)]
def s229:SCode:=qR [Qf 2] [0] (qR [Qm 3 0,qa 4 (.call (.f 247) [.t 3,qi 0,qi 3]),Qm 2 4] [2] .ret)
def c229:FB 229 []=some (r229,s229):=by kernel_rfl
def r232:RL:=[(2,none)]
def s232:SCode:=qR Zb14 [] Zb11
def c232:FB 232 [2000001]=some (r232,s232):=by kernel_rfl
def r235:RL:=[(4,none)]
def s235:SCode:=qR [Qf 4] [0,1] (qR [Qm 5 0,Q1 6 295 5,Qm 7 6,Bm 8 7 0,qb 9 7 (.len (.t 8)),Bm 10 7 1,qb 11 7 (.bin .geq (.t 9) (.t 10)),Qp 12 7 11,Qm 4 12] [4] .ret)
def c235:FB 235 []=some (r235,s235):=by kernel_rfl
def r238:RL:=[(2,none)]
def s238:SCode:=qR Zb14 [1] (qR [Qa 3 13 1,Qo 4 3,qa 5 (.call (.f 235) [.t 4,qi 0]),Qm 6 5,qb 7 6 (fa 14 1),qb 8 6 (lo 7),qb 9 6 (.call (.f 235) [.t 8,qi 1]),Qp 10 6 9,Qm 11 10,qb 12 11 (lm 25 1),qb 13 11 (.call (.f 236) [.t 12]),Qp 14 11 13,Qm 15 14,qb 16 15 (fa 13 1),qb 17 15 (lo 16),qb 18 15 (.len (.t 17)),qb 19 15 (.bin .gtr (.t 18) (qi 0)),Bm 20 15 19,qc 21 20 (fa 4 1),qc 22 20 (lo 21),qc 23 20 (.bin .eql (.t 22) (qi 0)),qb 24 15 (.pick (.t 20) qt (.t 23)),Qp 25 15 24,Qm 2 25] [2] .ret)
def c238:FB 238 [2000001]=some (r238,s238):=by kernel_rfl
def r241:RL:=[(2,some (true,25))]
def s241:SCode:=qR [Qb 1 25 0,qa 2 (.alloc 34 zItm)] [1,2] (qR [Qa 3 15 1,Qo 4 3,qa 5 (.build zItm [(15,(1,.t 4))]),QS 25 2 5] [2] .ret)
def c241:FB 241 [2000001]=some (r241,s241):=by kernel_rfl
def r244:RL:=[(2,none)]
def s244:SCode:=qR Zb14 [1] (qR [Qa 3 3 1,Qo 4 3,Q1 5 229 4,Qm 6 5,qb 7 6 (fa 2 1),qb 8 6 (lo 7),qb 9 6 (.call (.f 131) [.t 8]),Qp 10 6 9,Qm 2 10] [2] .ret)
def c244:FB 244 [2000001]=some (r244,s244):=by kernel_rfl
def r247:RL:=[(6,none)]
def s247:SCode:=qR [Qf 6] [0,1,2] (qR [Qm 7 0,Qm 8 1,Qv 9 .geq 7 8,Qm 10 9,Bm 11 10 0,Bm 12 10 2,qb 13 10 (.bin .leq (.t 11) (.t 12)),Qp 14 10 13,Qm 6 14] [6] .ret)
def c247:FB 247 []=some (r247,s247):=by kernel_rfl
def r250:RL:=[(4,none)]
def s250:SCode:=qR [Qb 2 25 0,Qf 4] [1,2] (qR [Qa 5 20 2,Qo 6 5,qa 7 (.call (.f 247) [.t 6,qi 1,qi 1048576]),Qm 8 7,qb 9 8 (fa 21 2),qb 10 8 (lo 9),Bm 11 8 1,qb 12 8 (.call (.f 247) [.t 10,.t 11,qi 31]),Qp 13 8 12,Qm 4 13] [4] .ret)
def c250:FB 250 [2000002]=some (r250,s250):=by kernel_rfl
def r259:RL:=[(4,none)]
def s259:SCode:=qR [Qb 2 8 0,Qz 4] [1,2] (qR [Ql 7 8 2,Qm 8 1,Q2 9 327 7 8,qa 10 (.buildS 9 1 1 [.str []] [(0,.t 9)]),Qm 5 10] [1,2,5] (qs (qR [Qi 6 0] [1,2,5,6] (qs (.block 0 (.loop (qs (qR [Qm 11 6,Qa 12 7 2,Qo 13 12,Qn 14 13,Qv 15 .lss 11 14] [1,2,5,6,15] (qX 15)) (qs (qs (.block 1 (qr [Qm 18 5,Qa 19 7 2,Qo 20 19,Qm 21 6,Qx 22 8 20 21,Ql 23 8 22,Qm 24 1,Qu 25 .add 24 1,Q2 26 259 23 25,Qw 27 9 1 16 18 26,Qm 5 27] [1,2,5,6])) (qr [] [1,2,5,6])) (qr [Qm 16 6,Qu 17 .add 16 1,Qm 6 17] [1,2,5,6]))))) (qr [] [5]))) (qR [Qm 28 5,Qm 4 28] [4] .ret)))
def c259:FB 259 [2000002]=some (r259,s259):=by kernel_rfl
def r265:RL:=[(4,none)]
def s265:SCode:=qR [Qf 4] [0,1] (qR [Qm 5 0,Qm 6 1,Q2 7 329 5 6,Qu 8 .geq 7 0,Qm 4 8] [4] .ret)
def c265:FB 265 []=some (r265,s265):=by kernel_rfl
def r268:RL:=[(4,none)]
def s268:SCode:=qR [Qf 4] [0,1] (qs Zb6 (qs (qR [Qm 11 0,Qn 12 11,Qi 13 0] [0,1,12,13] (qs (.block 0 (.loop (qR [Qv 14 .lss 13 12] [0,1,12,13,14] (qs (qX 14) (qs (qs (.block 1 (qR [Qm 15 13,Qm 5 15] [0,1,5,12,13] (qs (.draw [Qm 16 0,Qm 17 5,Qx 18 4 16 17,Ql 19 4 18,Qm 20 1,Qm 21 5,Qx 22 4 20 21,Ql 23 4 22,qa 24 (.eqs true [2,1,1,1] (.t 19) (.t 23))] [0,1,12,13,24]) (.cond (.t 24) (qR [Qf 4] [4] .ret) .skip)))) (qr [] [0,1,12,13])) (qr [Qu 25 .add 13 1,Qm 13 25] [0,1,12,13])))))) (qr [] []))) (qR [Qt 4] [4] .ret)))
def c268:FB 268 []=some (r268,s268):=by kernel_rfl
def r271:RL:=[(2,none)]
def s271:SCode:=qR [Qb 1 8 0,Qf 2] [1] (qs (qR [Qa 3 3 1,Qo 4 3,Qu 5 .lss 4 0,Qm 6 5,qc 7 6 (fa 3 1),qc 8 6 (lo 7),qc 9 6 (.bin .gtr (.t 8) (qi 7)),Qq 10 6 9,Qm 11 10,qc 12 11 (fa 7 1),qc 13 11 (lo 12),qc 14 11 (.len (.t 13)),qc 15 11 (.bin .gtr (.t 14) (qi 64)),Qq 16 11 15,Qm 17 16,qc 18 17 (fa 5 1),qc 19 17 (lo 18),qc 20 17 (.call (.f 337) [.t 19]),qc 21 17 (.not (.t 20)),Qq 22 17 21,Qm 23 22,qc 24 23 (fa 6 1),qc 25 23 (lo 24),qc 26 23 (.call (.f 337) [.t 25]),qc 27 23 (.not (.t 26)),Qq 28 23 27] [1,28] (.cond (.t 28) Zb2 .skip)) (qs (qR [Qa 29 3 1,Qo 30 29,Qu 31 .eql 30 0] [1,31] (.cond (.t 31) (qR [Qa 32 4 1,Qo 33 32,qa 34 (.bin .eql (.t 33) (.c (.str []))),Qm 35 34,qb 36 35 (fa 5 1),qb 37 35 (lo 36),qb 38 35 (.len (.t 37)),qb 39 35 (.bin .eql (.t 38) (qi 0)),Qp 40 35 39,Qm 41 40,qb 42 41 (fa 6 1),qb 43 41 (lo 42),qb 44 41 (.len (.t 43)),qb 45 41 (.bin .eql (.t 44) (qi 0)),Qp 46 41 45,Qm 2 46] [2] .ret) .skip)) (qR [Qa 47 4 1,Qo 48 47,Q1 49 79 48,Qm 2 49] [2] .ret)))
def c271:FB 271 [2000001]=some (r271,s271):=by kernel_rfl
def r292:RL:=[(2,none)]
def s292:SCode:=qR [Qf 2] [0] (qR [Qm 3 0,qa 4 (.bin .lss (.t 3) (.c (.int .i32 65))),Qm 5 4,Ym 6 5 0,qc 7 5 (.bin .gtr (.t 6) (.c (.int .i32 90))),Qq 8 5 7,Qm 2 8] [2] .ret)
def c292:FB 292 []=some (r292,s292):=by kernel_rfl
def r295:RL:=[(2,none)]
def s295:SCode:=qR [Qf 2] [0] (qR [Qm 3 0,Qn 4 3,Qu 5 .leq 4 256,Qm 6 5,Bm 7 6 0,qb 8 6 (.call (.f 331) [.t 7,.f 345]),qb 9 6 (.not (.t 8)),Qp 10 6 9,Qm 2 10] [2] .ret)
def c295:FB 295 []=some (r295,s295):=by kernel_rfl
def r307:RL:=[(3,none)]
def s307:SCode:=qR [Qb 2 8 0,Qf 3] [1] (qR [Qo 4 1,Qu 5 .add 4 1,QS 1 1 5] [] (qR [Qt 3] [3] .ret))
def c307:FB 307 [2000002]=some (r307,s307):=by kernel_rfl
def r331:RL:=[(4,none)]
def s331:SCode:=qR [Qf 4] [0,1] (qR [Qm 5 0,Qm 6 1,Q2 7 364 5 6,Qu 8 .geq 7 0,Qm 4 8] [4] .ret)
def c331:FB 331 []=some (r331,s331):=by kernel_rfl
def r337:RL:=[(2,none)]
def s337:SCode:=qR [Qf 2] [0] (qR [Qm 3 0,Qn 4 3,Qu 5 .leq 4 256,Qm 6 5,Bm 7 6 0,qb 8 6 (.call (.f 368) [.t 7]),qb 9 6 (.call (.f 140) [.t 8]),Qp 10 6 9,Qm 2 10] [2] .ret)
def c337:FB 337 []=some (r337,s337):=by kernel_rfl
def r343:RL:=[(2,none)]
def s343:SCode:=qR [Qb 1 8 0,Qf 2] [1] (qR [Ql 8 8 1,Q1 9 211 8,Qm 3 9] [1,3] (qR [qa 10 (.raw (.makeMap 309 none)),Qm 4 10] [1,3,4] (qs (qR [Qm 11 3,Qn 12 11,Qi 13 0] [1,3,4,11,12,13] (qs (.block 0 (.loop (qR [Qv 14 .lss 13 12] [1,3,4,11,12,13,14] (qs (qX 14) (qs (qs (.block 1 (qR [Qx 15 3 11 13,Ql 16 3 15,qa 6 (.alloc 23 Zb3),QS 3 6 16] [1,3,4,6,11,12,13] (qr [Qm 17 4,Ql 18 3 6,⟨none,none,.raw (.mapUpdate 309 (.tmp 17) (.tmp 18) (.const (.bool true)))⟩] [1,3,4,11,12,13]))) (qr [] [1,3,4,11,12,13])) (qr [Qu 19 .add 13 1,Qm 13 19] [1,3,4,11,12,13])))))) (qr [] [1,3,4]))) (qR [Qm 20 4,qa 21 (.build Zb3 []),qa 22 (.raw (.lookup 309 (.tmp 20) (.tmp 21) false)),Qm 7 22] [1,3,4,7] (qs (.drawL [Qm 23 7,Qm 24 23,Bm 25 24 4,qb 26 24 (.raw (.call (.mk (.builtin .len) #[.tmp 25] #[309]))),qb 27 24 (.bin .eql (.t 26) (qi 1)),Qp 28 24 27,Qm 29 28,Ym 30 29 4,Ym 32 29 3,qc 33 29 (.len (.t 32)),qc 31 29 (.raw (.call (.mk (.builtin .len) #[.tmp 30] #[309]))),qc 34 29 (.bin .eql (.t 31) (.t 33)),Ym 35 29 34,qb 36 35 (fa 3 1),qb 37 35 (.loadF false 1 (.t 36)),qb 38 35 (.bin .eql (.t 37) (qi 0)),qb 39 35 (fa 0 1),qb 40 35 (.loadF true 3 (.t 39)),qb 41 35 (.build Zb3 []),qb 42 35 (.eqs false [1,1,1] (.t 40) (.t 41)),qb 43 35 (.eqb false (.t 38) (.t 42)),qc 44 29 (.pick (.t 35) (.t 43) qf),Qq 45 29 44,Qm 2 45] [2]) .ret)))))
def c343:FB 343 [2000001]=some (r343,s343):=by kernel_rfl
def r346:RL:=[(4,none)]
def s346:SCode:=qR [Qi 4 0] [0,1] (qs (qR [Qm 6 0,Qn 7 6,Qi 8 0] [0,1,7,8] (qs (.block 0 (.loop (qR [Qv 9 .lss 8 7] [0,1,7,8,9] (qs (qX 9) (qs (qs (.block 1 (qR [Qm 10 8,Qm 5 10] [0,1,5,7,8] (qR [Qm 11 1,Qm 12 0,Qm 13 5,Qx 14 4 12 13,Ql 15 4 14,qa 16 (.call (.t 11) [.t 15])] [0,1,5,7,8,16] Zb10))) (qr [] [0,1,7,8])) Zb15))))) (qr [] []))) (qR [Qi 4 (-1)] [4] .ret))
def c346:FB 346 []=some (r346,s346):=by kernel_rfl
def r352:RL:=[(2,none)]
def s352:SCode:=qR [Qb 1 8 0,Qz 2] [1] (qs (qR [Ql 5 8 1,Q1 6 385 5,Q1 7 275 6,Qr 8 7] [1,8] (.cond (.t 8) (qR [Qz 2] [2] .ret) .skip)) (qR [qa 3 (.alloc 29 [.nil])] [1,3] (qR [qa 4 (.alloc 313 [.sc .nilFunc])] [1,3,4] (qR [qa 9 (.mkfun (.func 386) [] [.t 3,.t 4]),QS 1 4 9] [1,3,4] (qR [Qo 10 4,Ql 11 8 1,qa 12 (.call (.t 10) [.t 11,qi 0])] [3] (qR [Qo 13 3,Qm 2 13] [2] .ret))))))
def c352:FB 352 [2000001]=some (r352,s352):=by kernel_rfl
def r355:RL:=[(2,none)]
def s355:SCode:=qR [Qb 1 4 0,Qf 2] [1] (qR [Qa 3 1 1,Ql 4 3 3,qa 5 (.build Zb3 []),qa 6 (.eqs true [1,1,1] (.t 4) (.t 5)),Qm 2 6] [2] .ret)
def c355:FB 355 [2000001]=some (r355,s355):=by kernel_rfl
def r361:RL:=[(0,none)]
def s361:SCode:=qR [Qz 0] [] (qR [qa 1 (.buildS 9 1 8 [.str [],.str [],.str [],.str [],.str [],.str [],.str [],.str []] [(0,.c (.str [98,111,111,107])),(1,.c (.str [112,97,114,116])),(2,.c (.str [115,101,99,116,105,111,110])),(3,.c (.str [112,97,114,97,103,114,97,112,104])),(4,.c (.str [116,97,98,108,101])),(5,.c (.str [114,111,119])),(6,.c (.str [99,101,108,108])),(7,.c (.str [110,111,116,101]))]),Qm 0 1] [0] .ret)
def c361:FB 361 []=some (r361,s361):=by kernel_rfl
def r364:RL:=[(4,none)]
def s364:SCode:=qR [Qi 4 0] [0,1] (qs (qR [Qm 6 0,Qn 7 6,Qi 8 0] [0,1,7,8] (qs (.block 0 (.loop (qR [Qv 9 .lss 8 7] [0,1,7,8,9] (qs (qX 9) (qs (qs (.block 1 (qR [Qm 10 8,Qm 5 10] [0,1,5,7,8] (qR [Qm 11 1,Qm 12 0,Qm 13 5,Qx 14 1 12 13,Qo 15 14,qa 16 (.call (.t 11) [.t 15])] [0,1,5,7,8,16] Zb10))) (qr [] [0,1,7,8])) Zb15))))) (qr [] []))) (qR [Qi 4 (-1)] [4] .ret))
def c364:FB 364 []=some (r364,s364):=by kernel_rfl
def r385:RL:=[(2,some (true,8))]
def s385:SCode:=qR [QB 1 27 8 0,QU 2 27] [1,2] (qR [Ql 7 8 1,Q1 8 63 7,QS 8 1 8] [1,2] (qR [qa 9 (.build Zb3 []),Qa 10 0 1,QS 3 10 9] [1,2] (qs (qR [Qa 11 5 1,Qo 12 11,Qa 13 6 1,Qo 14 13,qa 15 (.buildS 24 1 2 [.nil,.nil] [(0,.t 12),(1,.t 14)]),Qn 16 15,Qi 17 0] [1,2,15,16,17] (qs (.block 0 (.loop (qR [Qv 18 .lss 17 16] [1,2,15,16,17,18] (qs (qX 18) (qs (qs (.block 1 (qR [Qx 19 1 15 17,Qo 20 19,Qm 4 20] [1,2,4,15,16,17] (qR [Qm 21 4,Qn 22 21,Qi 23 0] [1,2,4,15,16,17,22,23] (qs (.block 2 (.loop (qR [Qv 24 .lss 23 22] [1,2,4,15,16,17,22,23,24] (qs (.cond (.t 24) .skip (.exit 2)) (qs (qs (.block 3 (qR [Qm 25 23,Qm 5 25] [1,2,4,5,15,16,17,22,23] (qr [Qm 26 4,Qm 27 5,qa 28 (.build Zb3 []),Qx 29 4 26 27,Qa 30 1 29,QS 3 30 28] [1,2,4,15,16,17,22,23]))) (qr [] [1,2,4,15,16,17,22,23])) (qr [Qu 31 .add 23 1,Qm 23 31] [1,2,4,15,16,17,22,23])))))) (qr [] [1,2,15,16,17]))))) (qr [] [1,2,15,16,17])) (qr [Qu 32 .add 17 1,Qm 17 32] [1,2,15,16,17])))))) (qr [] [1,2]))) (qs (qR [Qa 33 7 1,Qo 34 33,Qn 35 34,Qi 36 0] [1,2,35,36] (qs (.block 4 (.loop (qR [Qv 37 .lss 36 35] [1,2,35,36,37] (qs (.cond (.t 37) .skip (.exit 4)) (qs (qs (.block 5 (qR [Qm 38 36,Qm 6 38] [1,2,6,35,36] (.drawT (.step (Qa 39 7 1) (.step (Qm 41 6) (.step (Qa 42 7 1) (.step (Qm 44 6) (.both (.step (Qo 40 39) (.step (Qo 43 42) (.step (Qx 45 8 43 44) (.step (Ql 46 8 45) Zb12)))) (.step (Qo 43 42) (.step (Qx 45 8 43 44) (.both (.step (Qo 40 39) (.step (Ql 46 8 45) Zb12)) (.step (Ql 46 8 45) (.both (.step (Qo 40 39) Zb12) (.step (Q1 47 385 46) (.step (Qo 40 39) Zb5)))))))))))) [1,2,35,36]))) (qr [] [1,2,35,36])) (qr [Qu 49 .add 36 1,Qm 36 49] [1,2,35,36])))))) (qr [] [1,2]))) (qR [Ql 50 8 1,QS 8 2 50] [2] .ret)))))
def c385:FB 385 []=some (r385,s385):=by kernel_rfl
def r439:RL:=[(2,none)]
def s439:SCode:=qR Zb14 [1] (qR [Ql 3 25 1,qa 4 (.call (.f 250) [.t 3,qi (-1)]),Qm 5 4,qb 6 5 (fa 22 1),qb 7 5 (lo 6),qb 8 5 (.call (.f 247) [.t 7,qi 0,qi 1048576]),Qp 9 5 8,Qm 2 9] [2] .ret)
def c439:FB 439 [2000001]=some (r439,s439):=by kernel_rfl
end Go.Av
