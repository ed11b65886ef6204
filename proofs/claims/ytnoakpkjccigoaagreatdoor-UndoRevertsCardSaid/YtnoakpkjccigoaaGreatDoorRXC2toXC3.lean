/-
  THE TRANSLATED CODE. Printed by mkcode2.py.
-/
import Derived.Test.YtnoakpkjccigoaaGreatDoorRXDattoXC1
import Derived.Test.YtnoakpkjccigoaaGreatDoorRXAv26toXGlob
import Derived.Test.YtnoakpkjccigoaaGreatDoorProg
namespace Go.Av
open Go List
set_option linter.unusedSimpArgs false
set_option linter.unusedVariables false
abbrev Zb23:SCode:=qr [] [1,2,15,16,17]
abbrev Zb22:SCode:=qr [Qu 25 .add 13 1,Qm 13 25] [0,1,12,13]
abbrev Zb21:SOper:=qa 12 (.buildS 9 1 1 [.str []] [(0,.t 11)])
abbrev Zb20:SCode:=qR [Qi 4 (-1)] [4] .ret
abbrev Zb19:DT:=.step (QS 2 3 11) (.step (Qm 4 12) .done)
abbrev Zb18:List SOper:=[Qm 6 0,Qn 7 6,Qi 8 0]
abbrev Zb3:DT:=.step (Qx 48 8 40 41) (.step (QS 8 48 47) .done)
abbrev Zb17:DT:=.step (Q1 47 307 46) Zb3
abbrev Zb16:SOper:=qa 10 (.raw (.lookup 144 (.tmp 7) (.tmp 9) true))
abbrev Zb15:DT:=.step (Q2 67 16 61 66) (.step (Qr 68 67) .done)
abbrev Zb14:DT:=.step (Qw 13 9 1 16 8 12) (.step (QS 1 2 13) .done)
abbrev Zb13:List SOper:=[Qb 1 8 0,Qf 2]
abbrev Zb12:SCode:=qR [Qt 2] [2] .ret
abbrev Zb11:SCode:=qr [Qu 18 .add 8 1,Qm 8 18] [0,1,7,8]
abbrev Zb7:SCode:=qR [Qf 4] [4] .ret
abbrev Zb10:SCode:=qR [Qm 6 0,Qn 7 6,Qm 8 1,Qn 9 8,Qv 10 .neq 7 9] [0,1,10] (.cond (.t 10) Zb7 .skip)
abbrev Zb9:SOper:=qa 3 (.alloc 142 [.sc .nilFunc,.sc .nilFunc])
abbrev Zb8:SCode:=.cond (.t 16) (qR [Qm 17 5,Qm 4 17] [4] .ret) .skip
abbrev Zb6:DT:=.step Zb21 Zb14
abbrev Zb5:List SOper:=[Qb 1 25 0,Qf 2]
abbrev Zb4:List SOper:=[Qb 1 25 0,qa 2 (.alloc 52 zItm)]
abbrev Zb2:DT:=.step Zb16 (.step (Qm 6 10) (.step (Qe 11 0 6) (.step (Qe 12 1 6) Zb19)))
abbrev Zb1:List AV:=[.int .i64 0,.int .i64 0,.int .i64 0]
abbrev Zb0:SCode:=qR [Qf 2] [2] .ret
def r16:RL:=[(4,none)]
def s16:SCode:=qR [Qb 2 8 0,Qb 3 8 1,Qf 4] [2,3] (qs (qR [Qa 6 0 2,Ql 7 3 6,Qa 8 0 3,Ql 9 3 8,qa 10 (.eqs true [1,1,1] (.t 7) (.t 9)),Qm 11 10,qc 12 11 (fa 3 2),qc 13 11 (lo 12),qc 14 11 (fa 3 3),qc 15 11 (lo 14),qc 16 11 (.bin .neq (.t 13) (.t 15)),Qq 17 11 16,Qm 18 17,qc 19 18 (fa 4 2),qc 20 18 (lo 19),qc 21 18 (fa 4 3),qc 22 18 (lo 21),qc 23 18 (.bin .neq (.t 20) (.t 22)),Qq 24 18 23,Qm 25 24,qc 26 25 (fa 5 2),qc 27 25 (lo 26),qc 28 25 (fa 5 3),qc 29 25 (lo 28),qc 30 25 (.call (.f 42) [.t 27,.t 29]),qc 31 25 (.not (.t 30)),Qq 32 25 31,Qm 33 32,qc 34 33 (fa 6 2),qc 35 33 (lo 34),qc 36 33 (fa 6 3),qc 37 33 (lo 36),qc 38 33 (.call (.f 42) [.t 35,.t 37]),qc 39 33 (.not (.t 38)),Qq 40 33 39,Qm 41 40,qc 42 41 (fa 7 2),qc 43 41 (lo 42),qc 44 41 (.len (.t 43)),qc 45 41 (fa 7 3),qc 46 41 (lo 45),qc 47 41 (.len (.t 46)),qc 48 41 (.bin .neq (.t 44) (.t 47)),Qq 49 41 48] [2,3,49] (.cond (.t 49) Zb7 .skip)) (qs (qR [Qi 5 0] [2,3,5] (qs (.block 0 (.loop (qs (qR [Qm 50 5,Qa 51 7 2,Qo 52 51,Qn 53 52,Qv 54 .lss 50 53] [2,3,5,54] (qX 54)) (qs (qs (.block 1 (qs (.drawT (.step (Qa 57 7 2) (.step (qa 58 (.loadF false 1 (.t 57))) (.step (Qm 59 5) (.step (Qx 60 8 58 59) (.step (Qa 62 7 3) (.step (qa 63 (.loadF false 1 (.t 62))) (.step (Qm 64 5) (.step (Qx 65 8 63 64) (.both (.step (Ql 61 8 60) (.step (Ql 66 8 65) Zb15)) (.step (Ql 66 8 65) (.step (Ql 61 8 60) Zb15))))))))))) [2,3,5,68]) (.cond (.t 68) Zb7 .skip))) (qr [] [2,3,5])) (qr [Qm 55 5,Qu 56 .add 55 1,Qm 5 56] [2,3,5]))))) (qr [] []))) (qR [Qt 4] [4] .ret)))
theorem c16:FB 16 [2000002,2000003]=some (r16,s16):=by kernel_rfl
def r25:RL:=[(2,none)]
def s25:SCode:=qR Zb13 [1] (qs (qR [Qa 4 4 1,Qo 5 4,QN 6 5,Qu 7 .gtr 6 30,Qm 8 7,qc 9 8 (fa 5 1),qc 10 8 (lo 9),qc 11 8 (.call (.f 50) [.t 10]),qc 12 8 (.not (.t 11)),Qq 13 8 12,Qm 14 13,qc 15 14 (fa 6 1),qc 16 14 (lo 15),qc 17 14 (.call (.f 50) [.t 16]),qc 18 14 (.not (.t 17)),Qq 19 14 18] [1,19] (.cond (.t 19) Zb0 .skip)) (qs (qR [Qi 3 0] [1,3] (qs (.block 0 (.loop (qs (qR [Qm 20 3,Qa 21 7 1,Qo 22 21,Qn 23 22,Qv 24 .lss 20 23] [1,3,24] (qX 24)) (qs (qs (.block 1 (qR [Qa 27 7 1,Qo 28 27,Qm 29 3,Qx 30 8 28 29,Ql 31 8 30,Q1 32 25 31,Qr 33 32] [1,3,33] (.cond (.t 33) Zb0 .skip))) (qr [] [1,3])) (qr [Qm 25 3,Qu 26 .add 25 1,Qm 3 26] [1,3]))))) (qr [] []))) Zb12))
theorem c25:FB 25 [2000001]=some (r25,s25):=by kernel_rfl
def r55:RL:=[(2,none)]
def s55:SCode:=qR Zb5 [1] (qs (qR [Qa 8 1 1,Qo 9 8,Qn 10 9,Qu 11 .gtr 10 12,Qm 12 11,qc 13 12 (fa 2 1),qc 14 12 (lo 13),qc 15 12 (.len (.t 14)),qc 16 12 (.bin .gtr (.t 15) (qi 12)),Qq 17 12 16,Qm 18 17,qc 19 18 (fa 13 1),qc 20 18 (lo 19),qc 21 18 (.len (.t 20)),qc 22 18 (.bin .gtr (.t 21) (qi 300)),Qq 23 18 22,Qm 24 23,qc 25 24 (fa 14 1),qc 26 24 (lo 25),qc 27 24 (.len (.t 26)),qc 28 24 (.bin .gtr (.t 27) (qi 300)),Qq 29 24 28,Qm 30 29,qc 31 30 (fa 15 1),qc 32 30 (lo 31),qc 33 30 (.lenS (.t 32)),qc 34 30 (.bin .gtr (.t 33) (qi 100)),Qq 35 30 34,Qm 36 35,qc 37 36 (fa 16 1),qc 38 36 (lo 37),qc 39 36 (.lenS (.t 38)),qc 40 36 (.bin .gtr (.t 39) (qi 100)),Qq 41 36 40,Qm 42 41,qc 43 42 (fa 17 1),qc 44 42 (fa 2 43),qc 45 42 (lo 44),qc 46 42 (.lenS (.t 45)),qc 47 42 (.bin .gtr (.t 46) (qi 100)),Qq 48 42 47,Qm 49 48,qc 50 49 (fa 23 1),qc 51 49 (lo 50),qc 52 49 (.lenS (.t 51)),qc 53 49 (.bin .gtr (.t 52) (qi 100)),Qq 54 49 53,Qm 55 54,qc 56 55 (fa 24 1),qc 57 55 (lo 56),qc 58 55 (.len (.t 57)),qc 59 55 (.bin .gtr (.t 58) (qi 2)),Qq 60 55 59,Qm 61 60,qc 62 61 (fa 5 1),qc 63 61 (lm 8 62),qc 64 61 (.call (.f 9) [.t 63,qi 30]),qc 65 61 (.not (.t 64)),Qq 66 61 65] [1,66] (.cond (.t 66) Zb0 .skip)) (qs (qR [Qi 3 0] [1,3] (qs (.block 0 (.loop (qs (qR [Qm 67 3,Qa 68 13 1,Qo 69 68,Qn 70 69,Qv 71 .lss 67 70] [1,3,71] (qX 71)) (qs (qs (.block 1 (qR [Qa 74 13 1,Qo 75 74,Qm 76 3,Qx 77 1 75 76,Qo 78 77,QN 79 78,Qu 80 .gtr 79 100] [1,3,80] (.cond (.t 80) Zb0 .skip))) (qr [] [1,3])) (qr [Qm 72 3,Qu 73 .add 72 1,Qm 3 73] [1,3]))))) (qr [] [1]))) (qs (qR [Qi 4 0] [1,4] (qs (.block 2 (.loop (qs (qR [Qm 81 4,Qa 82 14 1,Qo 83 82,Qn 84 83,Qv 85 .lss 81 84] [1,4,85] (.cond (.t 85) .skip (.exit 2))) (qs (qs (.block 3 (qR [Qa 88 14 1,Qo 89 88,Qm 90 4,Qx 91 1 89 90,Qo 92 91,QN 93 92,Qu 94 .gtr 93 100] [1,4,94] (.cond (.t 94) Zb0 .skip))) (qr [] [1,4])) (qr [Qm 86 4,Qu 87 .add 86 1,Qm 4 87] [1,4]))))) (qr [] [1]))) (qs (qR [Qi 5 0] [1,5] (qs (.block 4 (.loop (qs (qR [Qm 95 5,Qa 96 1 1,Qo 97 96,Qn 98 97,Qv 99 .lss 95 98] [1,5,99] (.cond (.t 99) .skip (.exit 4))) (qs (qs (.block 5 (qR [Qa 102 1 1,Qo 103 102,Qm 104 5,Qx 105 2 103 104,Qa 106 1 105,Qo 107 106,QN 108 107,Qu 109 .gtr 108 100] [1,5,109] (.cond (.t 109) Zb0 .skip))) (qr [] [1,5])) (qr [Qm 100 5,Qu 101 .add 100 1,Qm 5 101] [1,5]))))) (qr [] [1]))) (qs (qR [Qi 6 0] [1,6] (qs (.block 6 (.loop (qs (qR [Qm 110 6,Qa 111 2 1,Qo 112 111,Qn 113 112,Qv 114 .lss 110 113] [1,6,114] (.cond (.t 114) .skip (.exit 6))) (qs (qs (.block 7 (qR [Qa 117 2 1,Qo 118 117,Qm 119 6,Qx 120 2 118 119,Qa 121 1 120,Qo 122 121,QN 123 122,Qu 124 .gtr 123 100] [1,6,124] (.cond (.t 124) Zb0 .skip))) (qr [] [1,6])) (qr [Qm 115 6,Qu 116 .add 115 1,Qm 6 116] [1,6]))))) (qr [] [1]))) (qs (qR [Qi 7 0] [1,7] (qs (.block 8 (.loop (qs (qR [Qm 125 7,Qa 126 24 1,Qo 127 126,Qn 128 127,Qv 129 .lss 125 128] [1,7,129] (.cond (.t 129) .skip (.exit 8))) (qs (qs (.block 9 (qR [Qa 132 24 1,Qo 133 132,Qm 134 7,Qx 135 25 133 134,Qa 136 24 135,Qo 137 136,Qn 138 137,Qu 139 .gtr 138 0,Qm 140 139,qb 141 140 (fa 24 1),qb 142 140 (lo 141),Bm 143 140 7,qb 144 140 (.indexA 25 (.t 142) (.t 143)),qb 145 140 (fa 24 144),qb 146 140 (lo 145),qb 147 140 (.indexA 25 (.t 146) (qi 0)),qb 148 140 (fa 24 147),qb 149 140 (lo 148),qb 150 140 (.len (.t 149)),qb 151 140 (.bin .gtr (.t 150) (qi 0)),Qp 152 140 151,Qm 153 152,qc 154 153 (fa 24 1),qc 155 153 (lo 154),Ym 156 153 7,qc 157 153 (.indexA 25 (.t 155) (.t 156)),qc 158 153 (lm 25 157),qc 159 153 (.call (.f 55) [.t 158]),qc 160 153 (.not (.t 159)),Qq 161 153 160] [1,7,161] (.cond (.t 161) Zb0 .skip))) (qr [] [1,7])) (qr [Qm 130 7,Qu 131 .add 130 1,Qm 7 131] [1,7]))))) (qr [] []))) Zb12))))))
theorem c55:FB 55 [2000001]=some (r55,s55):=by kernel_rfl
def r100:RL:=[(2,none)]
def s100:SCode:=qR [Qf 2] [0] (qs (qR [Qm 5 0,Qn 6 5,Qi 7 0] [0,5,6,7] (qs (.block 0 (.loop (qR [Qv 8 .lss 7 6] [0,5,6,7,8] (qs (qX 8) (qs (qs (.block 1 (qR [Qm 9 7,Qx 10 2 5 7,Ql 11 2 10,qa 4 (.alloc 152 [.int .i64 0,.str []]),Qm 3 9,QS 2 4 11] [0,3,4,5,6,7] (qs (qR [Qm 12 3,Qu 13 .eql 12 0,Qm 14 13,qb 15 14 (lm 2 4),qb 16 14 (.call (.f 189) [.t 15]),Qp 17 14 16] [0,4,5,6,7,17] (.cond (.t 17) (.exit 1) .skip)) (qR [Qa 18 0 4,Qo 19 18,Qu 20 .leq 19 0,Qm 21 20,qc 22 21 (fa 0 4),qc 23 21 (lo 22),qc 24 21 (.bin .gtr (.t 23) (qi 7)),Qq 25 21 24,Qm 26 25,qc 27 26 (fa 1 4),qc 28 26 (lo 27),qc 29 26 (.call (.f 129) [.t 28]),qc 30 26 (.not (.t 29)),Qq 31 26 30] [0,5,6,7,31] (.cond (.t 31) Zb0 .skip))))) (qr [] [0,5,6,7])) (qr [Qu 32 .add 7 1,Qm 7 32] [0,5,6,7])))))) (qr [] [0]))) (qR [Qm 33 0,Qn 34 33,Qu 35 .leq 34 9,Qm 2 35] [2] .ret))
theorem c100:FB 100 []=some (r100,s100):=by kernel_rfl
def r103:RL:=[(4,none)]
def s103:SCode:=qR [Qb 2 25 0,Qb 3 25 1,Qf 4] [2,3] (qR [Qa 8 0 2,Qo 9 8,Qa 10 0 3,Qo 11 10,Qv 12 .eql 9 11,Qm 13 12,qb 14 13 (fa 3 2),qb 15 13 (lo 14),qb 16 13 (fa 3 3),qb 17 13 (lo 16),qb 18 13 (.bin .eql (.t 15) (.t 17)),Qp 19 13 18,Qm 20 19,qb 21 20 (fa 4 2),qb 22 20 (lo 21),qb 23 20 (fa 4 3),qb 24 20 (lo 23),qb 25 20 (.bin .eql (.t 22) (.t 24)),Qp 26 20 25,Qm 27 26,qb 28 27 (fa 20 2),qb 29 27 (lo 28),qb 30 27 (fa 20 3),qb 31 27 (lo 30),qb 32 27 (.bin .eql (.t 29) (.t 31)),Qp 33 27 32,Qm 34 33,qb 35 34 (fa 21 2),qb 36 34 (lo 35),qb 37 34 (fa 21 3),qb 38 34 (lo 37),qb 39 34 (.bin .eql (.t 36) (.t 38)),Qp 40 34 39,Qm 41 40,qb 42 41 (fa 22 2),qb 43 41 (lo 42),qb 44 41 (fa 22 3),qb 45 41 (lo 44),qb 46 41 (.bin .eql (.t 43) (.t 45)),Qp 47 41 46,Qm 5 47] [2,3,5] (qR [Qa 48 15 2,Qo 49 48,Qa 50 15 3,Qo 51 50,Qv 52 .eql 49 51,Qm 53 52,qb 54 53 (fa 16 2),qb 55 53 (lo 54),qb 56 53 (fa 16 3),qb 57 53 (lo 56),qb 58 53 (.bin .eql (.t 55) (.t 57)),Qp 59 53 58,Qm 60 59,qb 61 60 (fa 23 2),qb 62 60 (lo 61),qb 63 60 (fa 23 3),qb 64 60 (lo 63),qb 65 60 (.bin .eql (.t 62) (.t 64)),Qp 66 60 65,Qm 67 66,qb 68 67 (fa 17 2),qb 69 67 (lm 3 68),qb 70 67 (fa 17 3),qb 71 67 (lm 3 70),qb 72 67 (.eqs false [1,1,2] (.t 69) (.t 71)),Qp 73 67 72,Qm 6 73] [2,3,5,6] (qR [Qa 74 1 2,Qo 75 74,Qa 76 1 3,Qo 77 76,Q2 78 191 75 77,Qm 79 78,qb 80 79 (fa 2 2),qb 81 79 (lo 80),qb 82 79 (fa 2 3),qb 83 79 (lo 82),qb 84 79 (.call (.f 191) [.t 81,.t 83]),Qp 85 79 84,Qm 86 85,qb 87 86 (fa 13 2),qb 88 86 (lo 87),qb 89 86 (fa 13 3),qb 90 86 (lo 89),qb 91 86 (.call (.f 192) [.t 88,.t 90]),Qp 92 86 91,Qm 93 92,qb 94 93 (fa 14 2),qb 95 93 (lo 94),qb 96 93 (fa 14 3),qb 97 93 (lo 96),qb 98 93 (.call (.f 192) [.t 95,.t 97]),Qp 99 93 98,Qm 7 99] [2,3,5,6,7] (qR [Qm 100 5,Qm 101 100,Bm 102 101 6,Qp 103 101 102,Qm 104 103,Bm 105 104 7,Qp 106 104 105,Qm 107 106,qb 108 107 (fa 5 2),qb 109 107 (lm 8 108),qb 110 107 (fa 5 3),qb 111 107 (lm 8 110),qb 112 107 (.call (.f 193) [.t 109,.t 111]),Qp 113 107 112,Qm 114 113,qb 115 114 (fa 24 2),qb 116 114 (lo 115),qb 117 114 (fa 24 3),qb 118 114 (lo 117),qb 119 114 (.call (.f 194) [.t 116,.t 118,.f 103]),Qp 120 114 119,Qm 4 120] [4] .ret))))
theorem c103:FB 103 [2000002,2000003]=some (r103,s103):=by kernel_rfl
def r142:RL:=[(2,none)]
def s142:SCode:=qR [Qi 2 0] [0] (qR [Qi 3 0] [0,3] (qs (qs (.block 0 (.loop (qs (qR [Qm 4 3,Qm 5 0,QN 6 5,Qv 7 .lss 4 6,Qm 8 7,Bm 9 8 0,Bm 10 8 3,qb 11 8 (.index (.t 9) (.t 10)),qb 12 8 (.bin .geq (.t 11) (.c (.int .u8 48))),Qp 13 8 12,Qm 14 13,Bm 15 14 0,Bm 16 14 3,qb 17 14 (.index (.t 15) (.t 16)),qb 18 14 (.bin .leq (.t 17) (.c (.int .u8 57))),Qp 19 14 18] [0,3,19] (qX 19)) (qs (.block 1 (qr [Qm 20 3,Qu 21 .add 20 1,Qm 3 21] [0,3])) (qr [] [0,3]))))) (qr [] [3])) (qR [Qm 22 3,Qm 2 22] [2] .ret)))
theorem c142:FB 142 []=some (r142,s142):=by kernel_rfl
def r148:RL:=[(2,none)]
def s148:SCode:=qR [Qb 1 8 0,Qi 2 0] [1] (qR [qa 3 (.alloc 3 [.int .i64 0]),⟨none,none,.store 1 (.t 3) (qi 0)⟩] [1,3] (qR [Ql 4 8 1,qa 5 (.mkfun (.func 238) [] [.t 3]),Q2 6 237 4 5] [3] (qR [Qo 7 3,Qm 2 7] [2] .ret)))
theorem c148:FB 148 [2000001]=some (r148,s148):=by kernel_rfl
def r166:RL:=[(2,none)]
def s166:SCode:=qR Zb5 [1] (qR [Qa 3 3 1,Qo 4 3,Q1 5 167 4,Qm 6 5,qb 7 6 (fa 5 1),qb 8 6 (lm 8 7),qb 9 6 (.call (.f 168) [.t 8]),Qp 10 6 9,Qm 2 10] [2] .ret)
theorem c166:FB 166 [2000001]=some (r166,s166):=by kernel_rfl
def r169:RL:=[(2,some (true,25))]
def s169:SCode:=qR Zb4 [2] (qR [qa 3 (.build zItm []),QS 25 2 3] [2] .ret)
theorem c169:FB 169 [2000001]=some (r169,s169):=by kernel_rfl
def r172:RL:=[(2,none)]
def s172:SCode:=qR Zb5 [1] (qR [Qa 3 13 1,Qo 4 3,qa 5 (.call (.f 173) [.t 4,qi 1]),Qm 6 5,qb 7 6 (fa 14 1),qb 8 6 (lo 7),qb 9 6 (.call (.f 173) [.t 8,qi 0]),Qp 10 6 9,Qm 11 10,qb 12 11 (lm 25 1),qb 13 11 (.call (.f 174) [.t 12]),Qp 14 11 13,Qm 2 14] [2] .ret)
theorem c172:FB 172 [2000001]=some (r172,s172):=by kernel_rfl
def r175:RL:=[(2,some (true,25))]
def s175:SCode:=qR Zb4 [1,2] (qR [Qa 3 13 1,Qo 4 3,Qa 5 14 1,Qo 6 5,Qa 7 4 1,Qo 8 7,qa 9 (.build zItm [(13,(1,.t 4)),(14,(1,.t 6)),(4,(1,.t 8))]),QS 25 2 9] [2] .ret)
theorem c175:FB 175 [2000001]=some (r175,s175):=by kernel_rfl
def r178:RL:=[(2,none)]
def s178:SCode:=qR Zb5 [1] (qR [Qa 3 14 1,Qo 4 3,qa 5 (.call (.f 173) [.t 4,qi 0]),Qm 2 5] [2] .ret)
theorem c178:FB 178 [2000001]=some (r178,s178):=by kernel_rfl
def r181:RL:=[(2,some (true,25))]
def s181:SCode:=qR Zb4 [1,2] (qR [Qa 3 2 1,Qo 4 3,Qa 5 3 1,Qo 6 5,qa 7 (.build zItm [(2,(1,.t 4)),(3,(1,.t 6))]),QS 25 2 7] [2] .ret)
theorem c181:FB 181 [2000001]=some (r181,s181):=by kernel_rfl
def r184:RL:=[(2,none)]
def s184:SCode:=qR Zb5 [1] (qR [Qa 3 23 1,Qo 4 3,Q1 5 101 4,Qm 6 5,qb 7 6 (fa 22 1),qb 8 6 (lo 7),qb 9 6 (.call (.f 185) [.t 8,qi 0,qi 1048576]),Qp 10 6 9,Qm 2 10] [2] .ret)
theorem c184:FB 184 [2000001]=some (r184,s184):=by kernel_rfl
def r187:RL:=[(2,none)]
def s187:SCode:=qR Zb5 [1] (qR [Ql 3 25 1,qa 4 (.call (.f 188) [.t 3,qi 0]),Qm 5 4,qb 6 5 (fa 24 1),qb 7 5 (lo 6),qb 8 5 (.len (.t 7)),qb 9 5 (.bin .eql (.t 8) (qi 1)),Qp 10 5 9,Qm 11 10,qb 12 11 (fa 24 1),qb 13 11 (lo 12),qb 14 11 (.indexA 25 (.t 13) (qi 0)),qb 15 11 (fa 0 14),qb 16 11 (lo 15),qb 17 11 (.call (.f 48) [.t 16]),Qp 18 11 17,Qm 19 18,qb 20 19 (fa 24 1),qb 21 19 (lo 20),qb 22 19 (.indexA 25 (.t 21) (qi 0)),qb 23 19 (lm 25 22),qb 24 19 (.call (.f 47) [.t 23]),Qp 25 19 24,Qm 2 25] [2] .ret)
theorem c187:FB 187 [2000001]=some (r187,s187):=by kernel_rfl
def r193:RL:=[(4,none)]
def s193:SCode:=qR [Qb 2 8 0,Qb 3 8 1,Qf 4] [2,3] (qR [Qa 5 0 2,Ql 6 3 5,Qa 7 0 3,Ql 8 3 7,qa 9 (.eqs false [1,1,1] (.t 6) (.t 8)),Qm 10 9,qb 11 10 (fa 3 2),qb 12 10 (lo 11),qb 13 10 (fa 3 3),qb 14 10 (lo 13),qb 15 10 (.bin .eql (.t 12) (.t 14)),Qp 16 10 15,Qm 17 16,qb 18 17 (fa 4 2),qb 19 17 (lo 18),qb 20 17 (fa 4 3),qb 21 17 (lo 20),qb 22 17 (.bin .eql (.t 19) (.t 21)),Qp 23 17 22,Qm 24 23,qb 25 24 (fa 5 2),qb 26 24 (lo 25),qb 27 24 (fa 5 3),qb 28 24 (lo 27),qb 29 24 (.call (.f 257) [.t 26,.t 28]),Qp 30 24 29,Qm 31 30,qb 32 31 (fa 6 2),qb 33 31 (lo 32),qb 34 31 (fa 6 3),qb 35 31 (lo 34),qb 36 31 (.call (.f 257) [.t 33,.t 35]),Qp 37 31 36,Qm 38 37,qb 39 38 (fa 7 2),qb 40 38 (lo 39),qb 41 38 (fa 7 3),qb 42 38 (lo 41),qb 43 38 (.call (.f 258) [.t 40,.t 42,.f 193]),Qp 44 38 43,Qm 4 44] [4] .ret)
theorem c193:FB 193 [2000002,2000003]=some (r193,s193):=by kernel_rfl
def r217:RL:=[(2,none),(3,none)]
def s217:SCode:=qR [qa 2 (.mov (.c (.str []))),qa 3 (.mov (.c (.str [])))] [0] (qR [Qm 5 0,qa 6 (.call (.f 267) [.t 5,.f 268]),Qm 4 6] [0,4] (qs (qR [Qm 7 4,Qu 8 .lss 7 0] [0,4,8] (.cond (.t 8) (qR [Qm 9 0,Qm 2 9,qa 3 (.mov (.c (.str [])))] [2,3] .ret) .skip)) (qs (.drawL [Qm 10 0,Qm 11 4,qa 12 (.sliceS (.t 10) none (some (.t 11))),Qm 13 0,Qm 14 4,qa 15 (.sliceS (.t 13) (some (.t 14)) none),Qm 2 12,Qm 3 15] [2,3]) .ret)))
theorem c217:FB 217 []=some (r217,s217):=by kernel_rfl
def r223:RL:=[(2,none)]
def s223:SCode:=qR [Qf 2] [0] (qR [Qm 3 0,Qn 4 3,Qu 5 .leq 4 256,Qm 6 5,Bm 7 6 0,qb 8 6 (.call (.f 269) [.t 7,.f 270]),qb 9 6 (.not (.t 8)),Qp 10 6 9,Qm 2 10] [2] .ret)
theorem c223:FB 223 []=some (r223,s223):=by kernel_rfl
def r238:RL:=[(3,none)]
def s238:SCode:=qR [Qb 2 8 0,Qf 3] [1] (qR [Qo 4 1,Qu 5 .add 4 1,QS 1 1 5] [] (qR [Qt 3] [3] .ret))
theorem c238:FB 238 [2000002]=some (r238,s238):=by kernel_rfl
def r265:RL:=[(2,none)]
def s265:SCode:=qR Zb13 [1] (qR [Ql 8 8 1,Q1 9 149 8,Qm 3 9] [1,3] (qR [qa 10 (.raw (.makeMap 267 none)),Qm 4 10] [1,3,4] (qs (qR [Qm 11 3,Qn 12 11,Qi 13 0] [1,3,4,11,12,13] (qs (.block 0 (.loop (qR [Qv 14 .lss 13 12] [1,3,4,11,12,13,14] (qs (qX 14) (qs (qs (.block 1 (qR [Qx 15 3 11 13,Ql 16 3 15,qa 6 (.alloc 23 Zb1),QS 3 6 16] [1,3,4,6,11,12,13] (qr [Qm 17 4,Ql 18 3 6,⟨none,none,.raw (.mapUpdate 267 (.tmp 17) (.tmp 18) (.const (.bool true)))⟩] [1,3,4,11,12,13]))) (qr [] [1,3,4,11,12,13])) (qr [Qu 19 .add 13 1,Qm 13 19] [1,3,4,11,12,13])))))) (qr [] [1,3,4]))) (qR [Qm 20 4,qa 21 (.build Zb1 []),qa 22 (.raw (.lookup 267 (.tmp 20) (.tmp 21) false)),Qm 7 22] [1,3,4,7] (qs (.drawL [Qm 23 7,Qm 24 23,Bm 25 24 4,qb 26 24 (.raw (.call (.mk (.builtin .len) #[.tmp 25] #[267]))),qb 27 24 (.bin .eql (.t 26) (qi 1)),Qp 28 24 27,Qm 29 28,Ym 30 29 4,Ym 32 29 3,qc 33 29 (.len (.t 32)),qc 31 29 (.raw (.call (.mk (.builtin .len) #[.tmp 30] #[267]))),qc 34 29 (.bin .eql (.t 31) (.t 33)),Ym 35 29 34,qb 36 35 (fa 3 1),qb 37 35 (.loadF false 1 (.t 36)),qb 38 35 (.bin .eql (.t 37) (qi 0)),qb 39 35 (fa 0 1),qb 40 35 (.loadF true 3 (.t 39)),qb 41 35 (.build Zb1 []),qb 42 35 (.eqs false [1,1,1] (.t 40) (.t 41)),qb 43 35 (.eqb false (.t 38) (.t 42)),qc 44 29 (.pick (.t 35) (.t 43) qf),Qq 45 29 44,Qm 2 45] [2]) .ret)))))
theorem c265:FB 265 [2000001]=some (r265,s265):=by kernel_rfl
def r268:RL:=[(2,none)]
def s268:SCode:=qR [Qf 2] [0] (qR [Qm 3 0,qa 4 (.bin .lss (.t 3) (.c (.int .i32 48))),Qm 5 4,Ym 6 5 0,qc 7 5 (.bin .gtr (.t 6) (.c (.int .i32 57))),Qq 8 5 7,Qm 2 8] [2] .ret)
theorem c268:FB 268 []=some (r268,s268):=by kernel_rfl
def r271:RL:=[(2,none)]
def s271:SCode:=qR [Qf 2] [0] (qR [qa 3 (.mov (.f 296))] [0,3] (qR [Qm 4 0,qa 5 (.bin .neq (.t 4) (.c (.str []))),Qm 6 5,Bm 7 6 0,qb 8 6 (.lenS (.t 7)),qb 9 6 (.bin .leq (.t 8) (qi 24)),Qp 10 6 9,Qm 11 10,Bm 12 11 0,qb 13 11 (.raw (.convert 9 107 (.tmp 12))),Bm 14 11 3,qb 15 11 (.call (.f 297) [.t 13,.t 14]),qb 16 11 (.not (.t 15)),Qp 17 11 16,Qm 2 17] [2] .ret))
theorem c271:FB 271 []=some (r271,s271):=by kernel_rfl
def r280:RL:=[(2,none)]
def s280:SCode:=qR Zb13 [1] (qR [qa 3 (.mov (.f 281))] [1,3] (qR [Qa 4 0 1,Ql 5 3 4,qa 6 (.build Zb1 []),qa 7 (.eqs false [1,1,1] (.t 5) (.t 6)),Qm 8 7,qb 9 8 (fa 5 1),qb 10 8 (lo 9),Bm 11 8 3,qb 12 8 (.call (.f 225) [.t 10,.t 11]),qb 13 8 (.not (.t 12)),Qp 14 8 13,Qm 15 14,qb 16 15 (fa 6 1),qb 17 15 (lo 16),Bm 18 15 3,qb 19 15 (.call (.f 225) [.t 17,.t 18]),qb 20 15 (.not (.t 19)),Qp 21 15 20,Qm 2 21] [2] .ret))
theorem c280:FB 280 [2000001]=some (r280,s280):=by kernel_rfl
def r292:RL:=[(2,none)]
def s292:SCode:=qR [qa 2 (.mov (.c (.str [])))] [0] (qs (qR [Qm 3 0,Qu 4 .lss 3 0,Qm 5 4,Ym 6 5 0,qc 7 5 (.bin .geq (.t 6) (qi 8)),Qq 8 5 7] [0,8] (.cond (.t 8) (qR [qa 2 (.mov (.c (.str [])))] [2] .ret) .skip)) (qR [Qm 9 0,qa 10 (.indexP 8 1 (.g 3) (.t 9)),Qo 11 10,Qm 2 11] [2] .ret))
theorem c292:FB 292 []=some (r292,s292):=by kernel_rfl
def r295:RL:=[(4,none)]
def s295:SCode:=qR [Qi 4 0] [0,1] (qs (qR Zb18 [0,1,7,8] (qs (.block 0 (.loop (qR [Qv 9 .lss 8 7] [0,1,7,8,9] (qs (qX 9) (qs (qs (.block 1 (qR [Qm 10 8,Qm 5 10] [0,1,5,7,8] (qR [Qm 11 1,Qm 12 0,Qm 13 5,Qx 14 1 12 13,Qo 15 14,qa 16 (.call (.t 11) [.t 15])] [0,1,5,7,8,16] Zb8))) (qr [] [0,1,7,8])) Zb11))))) (qr [] []))) Zb20)
theorem c295:FB 295 []=some (r295,s295):=by kernel_rfl
def r307:RL:=[(2,some (true,8))]
def s307:SCode:=qR [QB 1 27 8 0,QU 2 27] [1,2] (qR [Ql 7 8 1,Q1 8 84 7,QS 8 1 8] [1,2] (qR [qa 9 (.build Zb1 []),Qa 10 0 1,QS 3 10 9] [1,2] (qs (qR [Qa 11 5 1,Qo 12 11,Qa 13 6 1,Qo 14 13,qa 15 (.buildS 24 1 2 [.nil,.nil] [(0,.t 12),(1,.t 14)]),Qn 16 15,Qi 17 0] [1,2,15,16,17] (qs (.block 0 (.loop (qR [Qv 18 .lss 17 16] [1,2,15,16,17,18] (qs (qX 18) (qs (qs (.block 1 (qR [Qx 19 1 15 17,Qo 20 19,Qm 4 20] [1,2,4,15,16,17] (qR [Qm 21 4,Qn 22 21,Qi 23 0] [1,2,4,15,16,17,22,23] (qs (.block 2 (.loop (qR [Qv 24 .lss 23 22] [1,2,4,15,16,17,22,23,24] (qs (.cond (.t 24) .skip (.exit 2)) (qs (qs (.block 3 (qR [Qm 25 23,Qm 5 25] [1,2,4,5,15,16,17,22,23] (qr [Qm 26 4,Qm 27 5,qa 28 (.build Zb1 []),Qx 29 4 26 27,Qa 30 1 29,QS 3 30 28] [1,2,4,15,16,17,22,23]))) (qr [] [1,2,4,15,16,17,22,23])) (qr [Qu 31 .add 23 1,Qm 23 31] [1,2,4,15,16,17,22,23])))))) Zb23)))) Zb23) (qr [Qu 32 .add 17 1,Qm 17 32] [1,2,15,16,17])))))) (qr [] [1,2]))) (qs (qR [Qa 33 7 1,Qo 34 33,Qn 35 34,Qi 36 0] [1,2,35,36] (qs (.block 4 (.loop (qR [Qv 37 .lss 36 35] [1,2,35,36,37] (qs (.cond (.t 37) .skip (.exit 4)) (qs (qs (.block 5 (qR [Qm 38 36,Qm 6 38] [1,2,6,35,36] (.drawT (.step (Qa 39 7 1) (.step (Qm 41 6) (.step (Qa 42 7 1) (.step (Qm 44 6) (.both (.step (Qo 40 39) (.step (Qo 43 42) (.step (Qx 45 8 43 44) (.step (Ql 46 8 45) Zb17)))) (.step (Qo 43 42) (.step (Qx 45 8 43 44) (.both (.step (Qo 40 39) (.step (Ql 46 8 45) Zb17)) (.step (Ql 46 8 45) (.both (.step (Qo 40 39) Zb17) (.step (Q1 47 307 46) (.step (Qo 40 39) Zb3)))))))))))) [1,2,35,36]))) (qr [] [1,2,35,36])) (qr [Qu 49 .add 36 1,Qm 36 49] [1,2,35,36])))))) (qr [] [1,2]))) (qR [Ql 50 8 1,QS 8 2 50] [2] .ret)))))
theorem c307:FB 307 []=some (r307,s307):=by kernel_rfl
def r316:RL:=[(2,none)]
def s316:SCode:=qR [Qf 2] [0] (qs (qR [Qm 4 0,Qn 5 4,Qu 6 .gtr 5 256] [0,6] (.cond (.t 6) Zb0 .skip)) (qs (qR [Qi 3 0] [0,3] (qs (.block 0 (.loop (qs (qR [Qm 7 3,Qm 8 0,Qn 9 8,Qv 10 .lss 7 9] [0,3,10] (qX 10)) (qs (qs (.block 1 (qR [Qm 13 0,Qm 14 3,Qx 15 1 13 14,Qo 16 15,Q1 17 81 16,Qr 18 17] [0,3,18] (.cond (.t 18) Zb0 .skip))) (qr [] [0,3])) (qr [Qm 11 3,Qu 12 .add 11 1,Qm 3 12] [0,3]))))) (qr [] []))) Zb12))
theorem c316:FB 316 []=some (r316,s316):=by kernel_rfl
def r319:RL:=[(4,none)]
def s319:SCode:=qR [QB 2 27 8 0,Qf 4] [1,2] (qR [qa 5 (.build Zb1 []),Qa 6 0 2,QS 3 6 5,Qa 7 7 2,⟨none,none,.store 1 (.t 7) (.c .nil)⟩] [1,2] (qR [Qm 8 1,Qu 9 .geq 8 0,Qm 10 9,Bm 11 10 1,qb 12 10 (.bin .leq (.t 11) (qi 8)),Qp 13 10 12,Qm 14 13,qb 15 14 (lm 8 2),qb 16 14 (.call (.f 307) [.t 15]),qb 17 14 (.call (.f 200) [.t 16]),Qp 18 14 17,Qm 4 18] [4] .ret))
theorem c319:FB 319 []=some (r319,s319):=by kernel_rfl
def r47:RL:=[(2,none)]
def s47:SCode:=qR Zb5 [1] (qs (.drawT (.step (Qa 8 0 1) (.step (qa 9 (.loadF false 1 (.t 8))) (.both (.step (Q0 7 99) (.both (.step Zb16 (.step (Qm 6 10) (.step (Qe 11 0 6) (.step (Qe 12 1 6) (.step Zb9 Zb19))))) (.step Zb9 Zb2))) (.step Zb9 (.step (Q0 7 99) Zb2))))) [1,3,4]) (qs (qR [Qm 13 4,Qr 14 13] [1,3,14] (.cond (.t 14) Zb0 .skip)) (qR [Qa 15 0 3,Qo 16 15,Ql 17 25 1,qa 18 (.call (.t 16) [.t 17]),qa 5 (.alloc 52 zItm),QS 25 5 18] [1,3,5] (qR [Qa 19 0 1,Qo 20 19,Qa 21 0 5,QS 1 21 20] [1,3,5] (qs (qR [Qa 22 0 1,Qo 23 22,Q1 24 48 23] [1,3,5,24] (.cond (.t 24) (qs (.drawL [Qa 25 1 1,qa 26 (.loadF false 1 (.t 25)),Qa 27 16 1,qa 28 (.loadF false 1 (.t 27)),Qa 29 17 1,Qs 30 3 29,Qa 31 1 5,QS 1 31 26,Qa 32 16 5,QS 1 32 28,Qa 33 17 5,QS 3 33 30] [1,3,5]) (qR [Qa 34 1 1,Qo 35 34,Q1 36 100 35,Qr 37 36,Qm 38 37,qc 39 38 (fa 16 1),qc 40 38 (lo 39),qc 41 38 (.bin .neq (.t 40) (.c (.str []))),Ym 42 38 41,qb 43 42 (fa 16 1),qb 44 42 (lo 43),qb 45 42 (.call (.f 101) [.t 44]),qb 46 42 (.not (.t 45)),qc 47 38 (.pick (.t 42) (.t 46) qf),Qq 48 38 47,Qm 49 48,qc 50 49 (fa 17 1),qc 51 49 (lm 3 50),qc 52 49 (.call (.f 102) [.t 51]),qc 53 49 (.not (.t 52)),Qq 54 49 53] [1,3,5,54] (.cond (.t 54) Zb0 .skip))) .skip)) (qR [Ql 55 25 1,Ql 56 25 5,Q2 57 103 55 56,Qm 58 57,qb 59 58 (fa 1 3),qb 60 58 (lo 59),qb 61 58 (lm 25 1),qb 62 58 (.call (.t 60) [.t 61]),Qp 63 58 62,Qm 2 63] [2] .ret))))))
theorem c47:FB 47 [2000001]=some (r47,s47):=by kernel_rfl
def r50:RL:=[(2,none)]
def s50:SCode:=qR [Qf 2] [0] (qs (qR [Qi 3 0] [0,3] (qs (.block 0 (.loop (qs (qR [Qm 4 3,Qm 5 0,Qn 6 5,Qv 7 .lss 4 6] [0,3,7] (qX 7)) (qs (qs (.block 1 (qR [Qm 10 0,Qm 11 3,Qx 12 4 10 11,Qa 13 0 12,Qo 14 13,QN 15 14,Qu 16 .gtr 15 100] [0,3,16] (.cond (.t 16) Zb0 .skip))) (qr [] [0,3])) (qr [Qm 8 3,Qu 9 .add 8 1,Qm 3 9] [0,3]))))) (qr [] [0]))) (qR [Qm 17 0,Qn 18 17,Qu 19 .leq 18 300,Qm 2 19] [2] .ret))
theorem c50:FB 50 []=some (r50,s50):=by kernel_rfl
def r56:RL:=[(2,none)]
def s56:SCode:=qR [Qb 1 8 0,Qz 2] [1] (qR [Qa 5 0 1,Ql 6 3 5,qa 7 (.buildS 23 3 1 Zb1 [(0,.t 6)]),Qm 3 7] [1,3] (qs (qR [Qi 4 0] [1,3,4] (qs (.block 0 (.loop (qs (qR [Qm 8 4,Qa 9 7 1,Qo 10 9,Qn 11 10,Qv 12 .lss 8 11] [1,3,4,12] (qX 12)) (qs (qs (.block 1 (qr [Qm 15 3,Qa 16 7 1,Qo 17 16,Qm 18 4,Qx 19 8 17 18,Ql 20 8 19,Q1 21 56 20,Qw 22 23 3 24 15 21,Qm 3 22] [1,3,4])) (qr [] [1,3,4])) (qr [Qm 13 4,Qu 14 .add 13 1,Qm 4 14] [1,3,4]))))) (qr [] [3]))) (qR [Qm 23 3,Qm 2 23] [2] .ret)))
theorem c56:FB 56 [2000001]=some (r56,s56):=by kernel_rfl
def r74:RL:=[(4,none)]
def s74:SCode:=qR [Qf 4] [0,1] (qs (qR [Qm 5 0] [1,5] (qs (.block 0 (qR [Qu 7 .eql 5 0,Qm 6 7] [1,5,6] (.cond (.t 6) (qR [Qm 8 1,Qu 9 .eql 8 1,Qm 10 9,Ym 11 10 1,qc 12 10 (.bin .eql (.t 11) (qi 2)),Qq 13 10 12,Qm 4 13] [4] .ret) (qR [Qu 15 .eql 5 1,Qm 14 15] [1,5,14] (.cond (.t 14) (qR [Qm 16 1,Qu 17 .eql 16 2,Qm 4 17] [4] .ret) (qs (qR [Qu 19 .eql 5 2,Qm 18 19] [1,5,18] (.cond (.t 18) .skip (qr [Qu 20 .eql 5 3,Qm 18 20] [1,5,18]))) (.cond (.t 18) (qR [Qm 21 1,Qu 22 .eql 21 3,Qm 23 22,Ym 24 23 1,qc 25 23 (.bin .eql (.t 24) (qi 4)),Qq 26 23 25,Qm 27 26,Ym 28 27 1,qc 29 27 (.bin .eql (.t 28) (qi 7)),Qq 30 27 29,Qm 4 30] [4] .ret) (qR [Qu 32 .eql 5 4,Qm 31 32] [1,5,31] (.cond (.t 31) (qR [Qm 33 1,Qu 34 .eql 33 5,Qm 4 34] [4] .ret) (qR [Qu 36 .eql 5 5,Qm 35 36] [1,35] (.cond (.t 35) (qR [Qm 37 1,Qu 38 .eql 37 6,Qm 4 38] [4] .ret) .skip))))))))))) (qr [] []))) Zb7)
theorem c74:FB 74 []=some (r74,s74):=by kernel_rfl
def r77:RL:=[(2,none)]
def s77:SCode:=qR [Qb 1 8 0,Qi 2 0] [1] (qR [Qi 3 0] [1,3] (qs (qR [Qi 4 0] [1,3,4] (qs (.block 0 (.loop (qs (qR [Qm 5 4,Qa 6 7 1,Qo 7 6,Qn 8 7,Qv 9 .lss 5 8] [1,3,4,9] (qX 9)) (qs (qs (.block 1 (qr [Qm 12 3,Qa 13 7 1,Qo 14 13,Qm 15 4,Qx 16 8 14 15,Ql 17 8 16,Q1 18 77 17,qa 19 (.bin .add (qi 1) (.t 18)),qa 20 (.raw (.call (.mk (.builtin .max) #[.tmp 12,.tmp 19] #[3,3]))),Qm 3 20] [1,3,4])) (qr [] [1,3,4])) (qr [Qm 10 4,Qu 11 .add 10 1,Qm 4 11] [1,3,4]))))) (qr [] [3]))) (qR [Qm 21 3,Qm 2 21] [2] .ret)))
theorem c77:FB 77 [2000001]=some (r77,s77):=by kernel_rfl
def r86:RL:=[(2,none)]
def s86:SCode:=qR [Qz 2] [0] (qs (qR [Qm 3 0,qa 4 (.eqnil 0 false (.t 3))] [0,4] (.cond (.t 4) (qR [Qz 2] [2] .ret) .skip)) (qR [qa 5 (.raw (.buildSlice 24 0 #[])),Qm 6 0,qa 7 (.raw (.call (.mk (.builtin .append) #[.tmp 5,.tmp 6] #[24,24]))),Qm 2 7] [2] .ret))
theorem c86:FB 86 [3000005,3000007]=some (r86,s86):=by kernel_rfl
def r101:RL:=[(2,none)]
def s101:SCode:=qR [Qf 2] [0] (qs (qR [Qm 3 0,QN 4 3,Qu 5 .lss 4 1,Qm 6 5,Ym 7 6 0,qc 8 6 (.lenS (.t 7)),qc 9 6 (.bin .gtr (.t 8) (qi 16)),Qq 10 6 9,Qm 11 10,Ym 12 11 0,qc 13 11 (.index (.t 12) (qi 0)),qc 14 11 (.bin .lss (.t 13) (.c (.int .u8 97))),Qq 15 11 14,Qm 16 15,Ym 17 16 0,qc 18 16 (.index (.t 17) (qi 0)),qc 19 16 (.bin .gtr (.t 18) (.c (.int .u8 122))),Qq 20 16 19] [0,20] (.cond (.t 20) Zb0 .skip)) (qR [Qm 21 0,qa 22 (.call (.f 190) [.t 21,.c (.str [97,98,99,100,101,102,103,104,105,106,107,108,109,110,111,112,113,114,115,116,117,118,119,120,121,122,48,49,50,51,52,53,54,55,56,57,45])]),qa 23 (.bin .eql (.t 22) (.c (.str []))),Qm 2 23] [2] .ret))
theorem c101:FB 101 []=some (r101,s101):=by kernel_rfl
def r107:RL:=[(2,none)]
def s107:SCode:=qR Zb13 [1] (qR [Ql 3 8 1,Q1 4 197 3,Qm 5 4,qb 6 5 (lm 8 1),qb 7 5 (.call (.f 77) [.t 6]),qb 8 5 (.bin .leq (.t 7) (qi 8)),Qp 9 5 8,Qm 10 9,qb 11 10 (lm 8 1),qb 12 10 (.call (.f 138) [.t 11]),qb 13 10 (.bin .leq (.t 12) (qi 1024)),Qp 14 10 13,Qm 15 14,qb 16 15 (lm 8 1),qb 17 15 (.call (.f 198) [.t 16]),Qp 18 15 17,Qm 2 18] [2] .ret)
theorem c107:FB 107 [2000001]=some (r107,s107):=by kernel_rfl
def r122:RL:=[(4,none)]
def s122:SCode:=qR [Qf 4] [0,1] (qR [Qm 5 0,Qu 6 .geq 5 0,Qm 7 6,Bm 8 7 0,qb 9 7 (.bin .lss (.t 8) (qi 8)),Qp 10 7 9,Qm 11 10,Bm 12 11 0,qb 13 11 (.indexP 8 1 (.g 1) (.t 12)),qb 14 11 (lo 13),Bm 15 11 1,qb 16 11 (.call (.f 213) [.t 14,.t 15]),Qp 17 11 16,Qm 4 17] [4] .ret)
theorem c122:FB 122 []=some (r122,s122):=by kernel_rfl
def r125:RL:=[(2,none)]
def s125:SCode:=qR [Qb 1 8 0,Qi 2 0] [1] (qR [Qi 3 0] [1,3] (qs (qR [Qa 6 7 1,Qo 7 6,Qn 8 7,Qi 9 0] [3,7,8,9] (qs (.block 0 (.loop (qR [Qv 10 .lss 9 8] [3,7,8,9,10] (qs (qX 10) (qs (qs (.block 1 (qR [Qx 11 8 7 9,Ql 12 8 11,QU 5 27,QS 8 5 12] [3,5,7,8,9] (qr [Qm 13 3,Ql 14 8 5,Q1 15 125 14,qa 16 (.bin .add (qi 1) (.t 15)),qa 17 (.raw (.call (.mk (.builtin .max) #[.tmp 13,.tmp 16] #[3,3]))),Qm 3 17] [3,7,8,9]))) (qr [] [3,7,8,9])) (qr [Qu 18 .add 9 1,Qm 9 18] [3,7,8,9])))))) (qr [] [3]))) (qR [Qm 19 3,Qm 2 19] [2] .ret)))
theorem c125:FB 125 [2000001]=some (r125,s125):=by kernel_rfl
def r149:RL:=[(2,none)]
def s149:SCode:=qR [Qb 1 8 0,Qz 2] [1] (qR [qa 3 (.alloc 115 [.nil])] [1,3] (qR [Ql 4 8 1,qa 5 (.mkfun (.func 239) [] [.t 3]),Q2 6 237 4 5] [3] (qR [Qo 7 3,Qm 2 7] [2] .ret)))
theorem c149:FB 149 [2000001]=some (r149,s149):=by kernel_rfl
def r167:RL:=[(2,none)]
def s167:SCode:=qR [Qf 2] [0] (qR [Qm 3 0,qa 4 (.call (.f 185) [.t 3,qi 0,qi 3]),Qm 2 4] [2] .ret)
theorem c167:FB 167 []=some (r167,s167):=by kernel_rfl
def r170:RL:=[(2,none)]
def s170:SCode:=qR Zb5 [] Zb12
theorem c170:FB 170 [2000001]=some (r170,s170):=by kernel_rfl
def r173:RL:=[(4,none)]
def s173:SCode:=qR [Qf 4] [0,1] (qR [Qm 5 0,Q1 6 223 5,Qm 7 6,Bm 8 7 0,qb 9 7 (.len (.t 8)),Bm 10 7 1,qb 11 7 (.bin .geq (.t 9) (.t 10)),Qp 12 7 11,Qm 4 12] [4] .ret)
theorem c173:FB 173 []=some (r173,s173):=by kernel_rfl
def r176:RL:=[(2,none)]
def s176:SCode:=qR Zb5 [1] (qR [Qa 3 13 1,Qo 4 3,qa 5 (.call (.f 173) [.t 4,qi 0]),Qm 6 5,qb 7 6 (fa 14 1),qb 8 6 (lo 7),qb 9 6 (.call (.f 173) [.t 8,qi 1]),Qp 10 6 9,Qm 11 10,qb 12 11 (lm 25 1),qb 13 11 (.call (.f 174) [.t 12]),Qp 14 11 13,Qm 15 14,qb 16 15 (fa 13 1),qb 17 15 (lo 16),qb 18 15 (.len (.t 17)),qb 19 15 (.bin .gtr (.t 18) (qi 0)),Bm 20 15 19,qc 21 20 (fa 4 1),qc 22 20 (lo 21),qc 23 20 (.bin .eql (.t 22) (qi 0)),qb 24 15 (.pick (.t 20) qt (.t 23)),Qp 25 15 24,Qm 2 25] [2] .ret)
theorem c176:FB 176 [2000001]=some (r176,s176):=by kernel_rfl
def r179:RL:=[(2,some (true,25))]
def s179:SCode:=qR Zb4 [1,2] (qR [Qa 3 15 1,Qo 4 3,qa 5 (.build zItm [(15,(1,.t 4))]),QS 25 2 5] [2] .ret)
theorem c179:FB 179 [2000001]=some (r179,s179):=by kernel_rfl
def r182:RL:=[(2,none)]
def s182:SCode:=qR Zb5 [1] (qR [Qa 3 3 1,Qo 4 3,Q1 5 167 4,Qm 6 5,qb 7 6 (fa 2 1),qb 8 6 (lo 7),qb 9 6 (.call (.f 100) [.t 8]),Qp 10 6 9,Qm 2 10] [2] .ret)
theorem c182:FB 182 [2000001]=some (r182,s182):=by kernel_rfl
def r185:RL:=[(6,none)]
def s185:SCode:=qR [Qf 6] [0,1,2] (qR [Qm 7 0,Qm 8 1,Qv 9 .geq 7 8,Qm 10 9,Bm 11 10 0,Bm 12 10 2,qb 13 10 (.bin .leq (.t 11) (.t 12)),Qp 14 10 13,Qm 6 14] [6] .ret)
theorem c185:FB 185 []=some (r185,s185):=by kernel_rfl
def r188:RL:=[(4,none)]
def s188:SCode:=qR [Qb 2 25 0,Qf 4] [1,2] (qR [Qa 5 20 2,Qo 6 5,qa 7 (.call (.f 185) [.t 6,qi 1,qi 1048576]),Qm 8 7,qb 9 8 (fa 21 2),qb 10 8 (lo 9),Bm 11 8 1,qb 12 8 (.call (.f 185) [.t 10,.t 11,qi 31]),Qp 13 8 12,Qm 4 13] [4] .ret)
theorem c188:FB 188 [2000002]=some (r188,s188):=by kernel_rfl
def r191:RL:=[(4,none)]
def s191:SCode:=qR [Qf 4] [0,1] (qs Zb10 (qs (qR [Qm 11 0,Qn 12 11,Qi 13 0] [0,1,12,13] (qs (.block 0 (.loop (qR [Qv 14 .lss 13 12] [0,1,12,13,14] (qs (qX 14) (qs (qs (.block 1 (qR [Qm 15 13,Qm 5 15] [0,1,5,12,13] (qs (.draw [Qm 16 0,Qm 17 5,Qx 18 2 16 17,Ql 19 2 18,Qm 20 1,Qm 21 5,Qx 22 2 20 21,Ql 23 2 22,qa 24 (.eqs true [1,2] (.t 19) (.t 23))] [0,1,12,13,24]) (.cond (.t 24) Zb7 .skip)))) (qr [] [0,1,12,13])) Zb22))))) (qr [] []))) (qR [Qt 4] [4] .ret)))
theorem c191:FB 191 []=some (r191,s191):=by kernel_rfl
def r194:RL:=[(6,none)]
def s194:SCode:=qR [Qf 6] [0,1,2] (qs (qR [Qm 10 0,Qn 11 10,Qm 12 1,Qn 13 12,Qv 14 .neq 11 13] [0,1,2,14] (.cond (.t 14) (qR [Qf 6] [6] .ret) .skip)) (qs (qR [Qm 15 0,Qn 16 15,Qi 17 0] [1,2,15,16,17] (qs (.block 0 (.loop (qR [Qv 18 .lss 17 16] [1,2,15,16,17,18] (qs (qX 18) (qs (qs (.block 1 (qR [Qm 19 17,Qx 20 25 15 17,Ql 21 25 20,qa 8 (.alloc 52 zItm),Qm 7 19,QS 25 8 21] [1,2,7,8,15,16,17] (qR [Qm 22 1,Qm 23 7,Qx 24 25 22 23,Ql 25 25 24,qa 9 (.alloc 52 zItm),QS 25 9 25] [1,2,8,9,15,16,17] (qR [Qm 26 2,Ql 27 25 8,Ql 28 25 9,qa 29 (.call (.t 26) [.t 27,.t 28]),Qr 30 29] [1,2,15,16,17,30] (.cond (.t 30) (qR [Qf 6] [6] .ret) .skip))))) Zb23) (qr [Qu 31 .add 17 1,Qm 17 31] [1,2,15,16,17])))))) (qr [] []))) (qR [Qt 6] [6] .ret)))
theorem c194:FB 194 []=some (r194,s194):=by kernel_rfl
def r197:RL:=[(2,none)]
def s197:SCode:=qR Zb13 [1] (qs (qR [Ql 5 8 1,Q1 6 263 5,Qr 7 6] [1,7] (.cond (.t 7) Zb0 .skip)) (qs (qR [Qi 3 0] [1,3] (qs (.block 0 (.loop (qs (qR [Qm 8 3,Qa 9 7 1,Qo 10 9,Qn 11 10,Qv 12 .lss 8 11] [1,3,12] (qX 12)) (qs (qs (.block 1 (qs (qs (.drawL [Qa 15 3 1,qa 16 (.loadF false 1 (.t 15)),Qa 17 7 1,qa 18 (.loadF false 1 (.t 17)),Qm 19 3,Qx 20 8 18 19,Qa 21 3 20,Qo 22 21,Q2 23 74 16 22,Qr 24 23,Qm 25 24,qc 26 25 (fa 7 1),qc 27 25 (.loadF false 1 (.t 26)),Ym 28 25 3,qc 29 25 (.indexA 8 (.t 27) (.t 28)),qc 30 25 (lm 8 29),qc 31 25 (.call (.f 197) [.t 30]),qc 32 25 (.not (.t 31)),Qq 33 25 32] [1,3,33]) (.cond (.t 33) Zb0 .skip)) (qR [Qi 4 0] [1,3,4] (qs (.block 2 (.loop (qs (qR [Qm 34 4,Qm 35 3,Qv 36 .lss 34 35] [1,3,4,36] (.cond (.t 36) .skip (.exit 2))) (qs (qs (.block 3 (qs (.draw [Qa 39 7 1,Qo 40 39,Qm 41 4,Qx 42 8 40 41,Qa 43 3 42,Qo 44 43,Qa 45 7 1,Qo 46 45,Qm 47 3,Qx 48 8 46 47,Qa 49 3 48,Qo 50 49,Qv 51 .eql 44 50,Qm 52 51,qb 53 52 (fa 7 1),qb 54 52 (lo 53),Bm 55 52 4,qb 56 52 (.indexA 8 (.t 54) (.t 55)),qb 57 52 (fa 4 56),qb 58 52 (lo 57),qb 59 52 (fa 7 1),qb 60 52 (lo 59),Bm 61 52 3,qb 62 52 (.indexA 8 (.t 60) (.t 61)),qb 63 52 (fa 4 62),qb 64 52 (lo 63),qb 65 52 (.bin .eql (.t 58) (.t 64)),Qp 66 52 65] [1,3,4,66]) (.cond (.t 66) Zb0 .skip))) (qr [] [1,3,4])) (qr [Qm 37 4,Qu 38 .add 37 1,Qm 4 38] [1,3,4]))))) (qr [] [1,3]))))) (qr [] [1,3])) (qr [Qm 13 3,Qu 14 .add 13 1,Qm 3 14] [1,3]))))) (qr [] []))) Zb12))
theorem c197:FB 197 [2000001]=some (r197,s197):=by kernel_rfl
def r200:RL:=[(2,none)]
def s200:SCode:=qR Zb13 [1] (qR [Ql 3 8 1,qa 4 (.call (.f 237) [.t 3,.f 264]),Qm 5 4,qb 6 5 (lm 8 1),qb 7 5 (.call (.f 125) [.t 6]),qb 8 5 (.bin .leq (.t 7) (qi 8)),Qp 9 5 8,Qm 10 9,qb 11 10 (lm 8 1),qb 12 10 (.call (.f 148) [.t 11]),qb 13 10 (.bin .leq (.t 12) (qi 1024)),Qp 14 10 13,Qm 15 14,qb 16 15 (lm 8 1),qb 17 15 (.call (.f 265) [.t 16]),Qp 18 15 17,Qm 2 18] [2] .ret)
theorem c200:FB 200 [2000001]=some (r200,s200):=by kernel_rfl
def r218:RL:=[(2,none)]
def s218:SCode:=qR [Qf 2] [0] (qR [Qm 3 0,qa 4 (.bin .lss (.t 3) (.c (.int .i32 65))),Qm 5 4,Ym 6 5 0,qc 7 5 (.bin .gtr (.t 6) (.c (.int .i32 90))),Qq 8 5 7,Qm 2 8] [2] .ret)
theorem c218:FB 218 []=some (r218,s218):=by kernel_rfl
def r239:RL:=[(3,none)]
def s239:SCode:=qR [Qb 2 8 0,Qf 3] [1,2] (qR [Qo 4 1,Qa 5 0 2,Ql 6 3 5,qa 7 (.buildS 23 3 1 Zb1 [(0,.t 6)]),Qw 8 23 3 24 4 7,QS 1 1 8] [] (qR [Qt 3] [3] .ret))
theorem c239:FB 239 [2000002]=some (r239,s239):=by kernel_rfl
def r248:RL:=[(2,none),(3,none)]
def s248:SCode:=qR [Qb 1 8 0,qa 2 (.mov (.c (.str []))),Qi 3 0] [1] (qR [Ql 6 8 1,Q1 7 278 6,Qm 4 7] [4] (qs (qR [Qm 8 4,Qn 9 8,Qu 10 .eql 9 0] [4,10] (.cond (.t 10) (qR [qa 2 (.mov (.c (.str []))),Qi 3 1] [2,3] .ret) .skip)) (qR [Qm 11 4,qa 12 (.call (.f 279) [.t 11,.c (.str [10])]),qa 13 (.bin .add (.t 12) (.c (.str [10]))),Qm 5 13] [5] (qs (qR [Qm 14 5,QN 15 14,Qu 16 .gtr 15 16384] [5,16] (.cond (.t 16) (qR [qa 2 (.mov (.c (.str []))),Qi 3 6] [2,3] .ret) .skip)) (qR [Qm 17 5,Qm 2 17,Qi 3 0] [2,3] .ret)))))
theorem c248:FB 248 [2000001]=some (r248,s248):=by kernel_rfl
def r257:RL:=[(4,none)]
def s257:SCode:=qR [Qf 4] [0,1] (qs Zb10 (qs (qR [Qm 11 0,Qn 12 11,Qi 13 0] [0,1,12,13] (qs (.block 0 (.loop (qR [Qv 14 .lss 13 12] [0,1,12,13,14] (qs (qX 14) (qs (qs (.block 1 (qR [Qm 15 13,Qm 5 15] [0,1,5,12,13] (qs (.draw [Qm 16 0,Qm 17 5,Qx 18 4 16 17,Ql 19 4 18,Qm 20 1,Qm 21 5,Qx 22 4 20 21,Ql 23 4 22,qa 24 (.eqs true [2,1,1,1] (.t 19) (.t 23))] [0,1,12,13,24]) (.cond (.t 24) Zb7 .skip)))) (qr [] [0,1,12,13])) Zb22))))) (qr [] []))) (qR [Qt 4] [4] .ret)))
theorem c257:FB 257 []=some (r257,s257):=by kernel_rfl
def r263:RL:=[(2,none)]
def s263:SCode:=qR Zb13 [1] (qs (qR [Qa 3 3 1,Qo 4 3,Qu 5 .lss 4 0,Qm 6 5,qc 7 6 (fa 3 1),qc 8 6 (lo 7),qc 9 6 (.bin .gtr (.t 8) (qi 7)),Qq 10 6 9,Qm 11 10,qc 12 11 (fa 7 1),qc 13 11 (lo 12),qc 14 11 (.len (.t 13)),qc 15 11 (.bin .gtr (.t 14) (qi 64)),Qq 16 11 15,Qm 17 16,qc 18 17 (fa 5 1),qc 19 17 (lo 18),qc 20 17 (.call (.f 291) [.t 19]),qc 21 17 (.not (.t 20)),Qq 22 17 21,Qm 23 22,qc 24 23 (fa 6 1),qc 25 23 (lo 24),qc 26 23 (.call (.f 291) [.t 25]),qc 27 23 (.not (.t 26)),Qq 28 23 27] [1,28] (.cond (.t 28) Zb0 .skip)) (qs (qR [Qa 29 3 1,Qo 30 29,Qu 31 .eql 30 0] [1,31] (.cond (.t 31) (qR [Qa 32 4 1,Qo 33 32,qa 34 (.bin .eql (.t 33) (.c (.str []))),Qm 35 34,qb 36 35 (fa 5 1),qb 37 35 (lo 36),qb 38 35 (.len (.t 37)),qb 39 35 (.bin .eql (.t 38) (qi 0)),Qp 40 35 39,Qm 41 40,qb 42 41 (fa 6 1),qb 43 41 (lo 42),qb 44 41 (.len (.t 43)),qb 45 41 (.bin .eql (.t 44) (qi 0)),Qp 46 41 45,Qm 2 46] [2] .ret) .skip)) (qR [Qa 47 4 1,Qo 48 47,Q1 49 78 48,Qm 2 49] [2] .ret)))
theorem c263:FB 263 [2000001]=some (r263,s263):=by kernel_rfl
def r266:RL:=[(4,none)]
def s266:SCode:=qR [Qi 4 0] [0,1] (qs (qR Zb18 [0,1,7,8] (qs (.block 0 (.loop (qR [Qv 9 .lss 8 7] [0,1,7,8,9] (qs (qX 9) (qs (qs (.block 1 (qR [Qm 10 8,Qm 5 10] [0,1,5,7,8] (qR [Qm 11 1,Qm 12 0,Qm 13 5,Qx 14 1 12 13,Qo 15 14,Qv 16 .eql 11 15] [0,1,5,7,8,16] Zb8))) (qr [] [0,1,7,8])) Zb11))))) (qr [] []))) Zb20)
theorem c266:FB 266 []=some (r266,s266):=by kernel_rfl
def r269:RL:=[(4,none)]
def s269:SCode:=qR [Qf 4] [0,1] (qR [Qm 5 0,Qm 6 1,Q2 7 295 5 6,Qu 8 .geq 7 0,Qm 4 8] [4] .ret)
theorem c269:FB 269 []=some (r269,s269):=by kernel_rfl
def r272:RL:=[(4,none)]
def s272:SCode:=qR [Qi 4 0] [0,1] (qs (qR Zb18 [0,1,7,8] (qs (.block 0 (.loop (qR [Qv 9 .lss 8 7] [0,1,7,8,9] (qs (qX 9) (qs (qs (.block 1 (qR [Qm 10 8,Qm 5 10] [0,1,5,7,8] (qR [Qm 11 1,Qm 12 0,Qm 13 5,Qx 14 4 12 13,Ql 15 4 14,qa 16 (.call (.t 11) [.t 15])] [0,1,5,7,8,16] Zb8))) (qr [] [0,1,7,8])) Zb11))))) (qr [] []))) Zb20)
theorem c272:FB 272 []=some (r272,s272):=by kernel_rfl
def r278:RL:=[(2,none)]
def s278:SCode:=qR [Qb 1 8 0,Qz 2] [1] (qs (qR [Ql 5 8 1,Q1 6 307 5,Q1 7 200 6,Qr 8 7] [1,8] (.cond (.t 8) (qR [Qz 2] [2] .ret) .skip)) (qR [qa 3 (.alloc 47 [.nil])] [1,3] (qR [qa 4 (.alloc 274 [.sc .nilFunc])] [1,3,4] (qR [qa 9 (.mkfun (.func 308) [] [.t 3,.t 4]),QS 1 4 9] [1,3,4] (qR [Qo 10 4,Ql 11 8 1,qa 12 (.call (.t 10) [.t 11,qi 0])] [3] (qR [Qo 13 3,Qm 2 13] [2] .ret))))))
theorem c278:FB 278 [2000001]=some (r278,s278):=by kernel_rfl
def r281:RL:=[(2,none)]
def s281:SCode:=qR [Qb 1 4 0,Qf 2] [1] (qR [Qa 3 1 1,Ql 4 3 3,qa 5 (.build Zb1 []),qa 6 (.eqs true [1,1,1] (.t 4) (.t 5)),Qm 2 6] [2] .ret)
theorem c281:FB 281 [2000001]=some (r281,s281):=by kernel_rfl
def r293:RL:=[(2,none)]
def s293:SCode:=qR [Qf 2] [0] (qR [Qz 3] [0,3] (qs (qR Zb18 [0,3,6,7,8] (qs (.block 0 (.loop (qR [Qv 9 .lss 8 7] [0,3,6,7,8,9] (qs (qX 9) (qs (qs (.block 1 (qR [Qx 10 4 6 8,Ql 11 4 10,qa 5 (.alloc 33 [.str [],.int .i64 0,.int .i64 0,.int .i64 0]),QS 4 5 11] [0,3,5,6,7,8] (qr [Qm 12 3,Qa 13 0 5,Qo 14 13,qa 15 (.buildS 9 1 1 [.str []] [(0,.t 14)]),Qw 16 9 1 16 12 15,Qm 3 16] [0,3,6,7,8]))) (qr [] [0,3,6,7,8])) (qr [Qu 17 .add 8 1,Qm 8 17] [0,3,6,7,8])))))) (qr [] [0,3]))) (qR [Qm 18 0,Qn 19 18,Qu 20 .leq 19 256,Qm 21 20,Bm 22 21 3,qb 23 21 (.call (.f 223) [.t 22]),Qp 24 21 23,Qm 2 24] [2] .ret)))
theorem c293:FB 293 []=some (r293,s293):=by kernel_rfl
def r296:RL:=[(2,none)]
def s296:SCode:=qR [Qf 2] [0] (qR [Qm 3 0,qa 4 (.bin .lss (.t 3) (.c (.int .u8 33))),Qm 5 4,Ym 6 5 0,qc 7 5 (.bin .gtr (.t 6) (.c (.int .u8 126))),Qq 8 5 7,Qm 2 8] [2] .ret)
theorem c296:FB 296 []=some (r296,s296):=by kernel_rfl
def r308:RL:=[]
def s308:SCode:=qR [Qb 4 8 0] [1,2,3,4] (qs (.drawT (.step (Qs 9 8 4) (.step (Qm 10 1) (.both (.step (Qo 8 2) (.step (Q2 11 309 9 10) Zb6)) (.step (Q2 11 309 9 10) (.both (.step (Qo 8 2) Zb6) (.step Zb21 (.step (Qo 8 2) Zb14))))))) [1,3,4]) (qR [Qa 14 7 4,Qo 15 14,Qn 16 15,Qi 17 0] [1,3,15,16,17] (qs (.block 0 (.loop (qR [Qv 18 .lss 17 16] [1,3,15,16,17,18] (qs (qX 18) (qs (qs (.block 1 (qR [Qx 19 8 15 17,Ql 20 8 19,QU 7 27,QS 8 7 20] [1,3,7,15,16,17] (qr [Qo 21 3,Ql 22 8 7,Qm 23 1,Qu 24 .add 23 1,qa 25 (.call (.t 21) [.t 22,.t 24])] [1,3,15,16,17]))) (qr [] [1,3,15,16,17])) (qr [Qu 26 .add 17 1,Qm 17 26] [1,3,15,16,17])))))) (qr [] []))))
theorem c308:FB 308 [2000004]=some (r308,s308):=by kernel_rfl
def r317:RL:=[(2,none)]
def s317:SCode:=qR [Qz 2] [0] (qR [qa 5 (.buildS 9 1 0 [] []),Qm 3 5] [0,3] (qs (qR [Qi 4 0] [0,3,4] (qs (.block 0 (.loop (qs (qR [Qm 6 4,Qm 7 0,Qn 8 7,Qv 9 .lss 6 8] [0,3,4,9] (qX 9)) (qs (qs (.block 1 (qr [Qm 12 3,Qm 13 0,Qm 14 4,Qx 15 4 13 14,Qa 16 0 15,Qo 17 16,qa 18 (.buildS 9 1 1 [.str []] [(0,.t 17)]),Qw 19 9 1 16 12 18,Qm 3 19] [0,3,4])) (qr [] [0,3,4])) (qr [Qm 10 4,Qu 11 .add 10 1,Qm 4 11] [0,3,4]))))) (qr [] [3]))) (qR [Qm 20 3,Qm 2 20] [2] .ret)))
theorem c317:FB 317 []=some (r317,s317):=by kernel_rfl
def r353:RL:=[(2,some (true,25))]
def s353:SCode:=qR Zb4 [1,2] (qR [Qa 3 20 1,Qo 4 3,Qa 5 21 1,Qo 6 5,Qa 7 22 1,Qo 8 7,qa 9 (.build zItm [(20,(1,.t 4)),(21,(1,.t 6)),(22,(1,.t 8))]),QS 25 2 9] [2] .ret)
theorem c353:FB 353 [2000001]=some (r353,s353):=by kernel_rfl
end Go.Av
