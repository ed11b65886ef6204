/-
  THE TRANSLATED CODE. Printed by mkcode2.py.
-/
import Derived.Test.YtjdccoplpljmlaaGreatDoorVXDattoXC1
import Derived.Test.YtjdccoplpljmlaaGreatDoorVXAv26toXGlob
import Derived.Test.YtjdccoplpljmlaaGreatDoorProg
import Derived.Test.YtjdccoplpljmlaaGreatDoorVXC2
namespace Go.Av
open Go List
set_option linter.unusedSimpArgs false
set_option linter.unusedVariables false
abbrev Zb6:List SOper:=[Qb 1 25 0,Qf 2]
abbrev Zb5:SCode:=.cond (.t 24) (qR [Qf 4] [4] .ret) .skip
abbrev Zb4:SCode:=qr [Qu 25 .add 13 1,Qm 13 25] [0,1,12,13]
abbrev Zb3:SCode:=qR [Qt 2] [2] .ret
abbrev Zb2:List AV:=[.int .i64 0,.int .i64 0,.int .i64 0]
abbrev Zb1:SCode:=qR [Qm 6 0,Qn 7 6,Qm 8 1,Qn 9 8,Qv 10 .neq 7 9] [0,1,10] (.cond (.t 10) (qR [Qf 4] [4] .ret) .skip)
abbrev Zb0:SCode:=qR [Qf 2] [2] .ret
def r8:RL:=[(2,none)]
def s8:SCode:=qR [Qb 1 8 0,Qf 2] [1] (qR [Ql 3 8 1,Q1 4 32 3,Qm 5 4,qb 6 5 (lm 8 1),qb 7 5 (.call (.f 33) [.t 6]),qb 8 5 (.bin .leq (.t 7) (qi 8)),Qp 9 5 8,Qm 10 9,qb 11 10 (lm 8 1),qb 12 10 (.call (.f 34) [.t 11]),qb 13 10 (.bin .leq (.t 12) (qi 1024)),Qp 14 10 13,Qm 15 14,qb 16 15 (lm 8 1),qb 17 15 (.call (.f 35) [.t 16]),Qp 18 15 17,Qm 2 18] [2] .ret)
theorem c8:FB 8 [2000001]=some (r8,s8):=by kernel_rfl
def r32:RL:=[(2,none)]
def s32:SCode:=qR [Qb 1 8 0,Qf 2] [1] (qs (qR [Ql 5 8 1,Q1 6 72 5,Qr 7 6] [1,7] (.cond (.t 7) Zb0 .skip)) (qs (qR [Qi 3 0] [1,3] (qs (.block 0 (.loop (qs (qR [Qm 8 3,Qa 9 7 1,Qo 10 9,Qn 11 10,Qv 12 .lss 8 11] [1,3,12] (qX 12)) (qs (qs (.block 1 (qs (qs (.drawL [Qa 15 3 1,qa 16 (.loadF false 1 (.t 15)),Qa 17 7 1,qa 18 (.loadF false 1 (.t 17)),Qm 19 3,Qx 20 8 18 19,Qa 21 3 20,Qo 22 21,Q2 23 73 16 22,Qr 24 23,Qm 25 24,qc 26 25 (fa 7 1),qc 27 25 (.loadF false 1 (.t 26)),Ym 28 25 3,qc 29 25 (.indexA 8 (.t 27) (.t 28)),qc 30 25 (lm 8 29),qc 31 25 (.call (.f 32) [.t 30]),qc 32 25 (.not (.t 31)),Qq 33 25 32] [1,3,33]) (.cond (.t 33) Zb0 .skip)) (qR [Qi 4 0] [1,3,4] (qs (.block 2 (.loop (qs (qR [Qm 34 4,Qm 35 3,Qv 36 .lss 34 35] [1,3,4,36] (.cond (.t 36) .skip (.exit 2))) (qs (qs (.block 3 (qs (.draw [Qa 39 7 1,Qo 40 39,Qm 41 4,Qx 42 8 40 41,Qa 43 3 42,Qo 44 43,Qa 45 7 1,Qo 46 45,Qm 47 3,Qx 48 8 46 47,Qa 49 3 48,Qo 50 49,Qv 51 .eql 44 50,Qm 52 51,qb 53 52 (fa 7 1),qb 54 52 (lo 53),Bm 55 52 4,qb 56 52 (.indexA 8 (.t 54) (.t 55)),qb 57 52 (fa 4 56),qb 58 52 (lo 57),qb 59 52 (fa 7 1),qb 60 52 (lo 59),Bm 61 52 3,qb 62 52 (.indexA 8 (.t 60) (.t 61)),qb 63 52 (fa 4 62),qb 64 52 (lo 63),qb 65 52 (.bin .eql (.t 58) (.t 64)),Qp 66 52 65] [1,3,4,66]) (.cond (.t 66) Zb0 .skip))) (qr [] [1,3,4])) (qr [Qm 37 4,Qu 38 .add 37 1,Qm 4 38] [1,3,4]))))) (qr [] [1,3]))))) (qr [] [1,3])) (qr [Qm 13 3,Qu 14 .add 13 1,Qm 3 14] [1,3]))))) (qr [] []))) Zb3))
theorem c32:FB 32 [2000001]=some (r32,s32):=by kernel_rfl
def r35:RL:=[(2,none)]
def s35:SCode:=qR [Qb 1 8 0,Qf 2] [1] (qR [Ql 8 8 1,Q1 9 52 8,Qm 3 9] [1,3] (qR [Qt 4] [1,3,4] (qs (qR [Qi 5 0] [1,3,4,5] (qs (.block 0 (.loop (qs (qR [Qm 10 5,Qm 11 3,Qn 12 11,Qv 13 .lss 10 12] [1,3,4,5,13] (qX 13)) (qs (qs (.block 1 (qr [Qm 16 4,Qm 17 16,Bm 18 17 3,Bm 19 17 5,qb 20 17 (.indexA 3 (.t 18) (.t 19)),qb 21 17 (lm 3 20),qb 22 17 (.build Zb2 []),qb 23 17 (.eqs false [1,1,1] (.t 21) (.t 22)),Qp 24 17 23,Qm 4 24] [1,3,4,5])) (qr [] [1,3,4,5])) (qr [Qm 14 5,Qu 15 .add 14 1,Qm 5 15] [1,3,4,5]))))) (qr [] [1,3,4]))) (qs (qR [Qm 25 4] [1,3,25] (.cond (.t 25) Zb3 .skip)) (qs (qs (.drawL [Qm 26 3,qa 27 (.indexA 3 (.t 26) (qi 0)),qa 29 (.build Zb2 []),Qa 31 3 1,qa 32 (.loadF false 1 (.t 31)),Qu 33 .eql 32 0,Ql 28 3 27,qa 30 (.eqs false [1,1,1] (.t 28) (.t 29)),qa 34 (.eqb true (.t 30) (.t 33))] [3,34]) (.cond (.t 34) Zb0 .skip)) (qs (qR [Qi 6 0] [3,6] (qs (.block 2 (.loop (qs (qR [Qm 35 6,Qm 36 3,Qn 37 36,Qv 38 .lss 35 37] [3,6,38] (.cond (.t 38) .skip (.exit 2))) (qs (qs (.block 3 (qR [Qi 7 0] [3,6,7] (qs (.block 4 (.loop (qs (qR [Qm 41 7,Qm 42 6,Qv 43 .lss 41 42] [3,6,7,43] (.cond (.t 43) .skip (.exit 4))) (qs (qs (.block 5 (qs (.draw [Qm 46 3,Qm 47 7,Qx 48 3 46 47,Ql 49 3 48,Qm 50 3,Qm 51 6,Qx 52 3 50 51,Ql 53 3 52,qa 54 (.eqs false [1,1,1] (.t 49) (.t 53))] [3,6,7,54]) (.cond (.t 54) Zb0 .skip))) (qr [] [3,6,7])) (qr [Qm 44 7,Qu 45 .add 44 1,Qm 7 45] [3,6,7]))))) (qr [] [3,6])))) (qr [] [3,6])) (qr [Qm 39 6,Qu 40 .add 39 1,Qm 6 40] [3,6]))))) (qr [] []))) Zb3))))))
theorem c35:FB 35 [2000001]=some (r35,s35):=by kernel_rfl
def r38:RL:=[(2,none)]
def s38:SCode:=qR [Qb 1 8 0,Qi 2 0] [1] (qR [Qi 3 0] [1,3] (qs (qR [Qa 6 7 1,Qo 7 6,Qn 8 7,Qi 9 0] [3,7,8,9] (qs (.block 0 (.loop (qR [Qv 10 .lss 9 8] [3,7,8,9,10] (qs (qX 10) (qs (qs (.block 1 (qR [Qx 11 8 7 9,Ql 12 8 11,QU 5 29,QS 8 5 12] [3,5,7,8,9] (qr [Qm 13 3,Ql 14 8 5,Q1 15 38 14,qa 16 (.bin .add (qi 1) (.t 15)),qa 17 (.raw (.call (.mk (.builtin .max) #[.tmp 13,.tmp 16] #[3,3]))),Qm 3 17] [3,7,8,9]))) (qr [] [3,7,8,9])) (qr [Qu 18 .add 9 1,Qm 9 18] [3,7,8,9])))))) (qr [] [3]))) (qR [Qm 19 3,Qm 2 19] [2] .ret)))
theorem c38:FB 38 [2000001]=some (r38,s38):=by kernel_rfl
def r41:RL:=[(3,none)]
def s41:SCode:=qR [Qb 2 8 0,Qf 3] [1,2] (qR [Qo 4 1,Qa 5 0 2,Ql 6 3 5,qa 7 (.buildS 25 3 1 Zb2 [(0,.t 6)]),Qw 8 25 3 24 4 7,QS 1 1 8] [] (qR [Qt 3] [3] .ret))
theorem c41:FB 41 [2000002]=some (r41,s41):=by kernel_rfl
def r68:RL:=[(2,none)]
def s68:SCode:=qR Zb6 [1] (qs (qR [Qa 8 1 1,Qo 9 8,Qn 10 9,Qu 11 .gtr 10 12,Qm 12 11,qc 13 12 (fa 2 1),qc 14 12 (lo 13),qc 15 12 (.len (.t 14)),qc 16 12 (.bin .gtr (.t 15) (qi 12)),Qq 17 12 16,Qm 18 17,qc 19 18 (fa 13 1),qc 20 18 (lo 19),qc 21 18 (.len (.t 20)),qc 22 18 (.bin .gtr (.t 21) (qi 300)),Qq 23 18 22,Qm 24 23,qc 25 24 (fa 14 1),qc 26 24 (lo 25),qc 27 24 (.len (.t 26)),qc 28 24 (.bin .gtr (.t 27) (qi 300)),Qq 29 24 28,Qm 30 29,qc 31 30 (fa 15 1),qc 32 30 (lo 31),qc 33 30 (.lenS (.t 32)),qc 34 30 (.bin .gtr (.t 33) (qi 100)),Qq 35 30 34,Qm 36 35,qc 37 36 (fa 16 1),qc 38 36 (lo 37),qc 39 36 (.lenS (.t 38)),qc 40 36 (.bin .gtr (.t 39) (qi 100)),Qq 41 36 40,Qm 42 41,qc 43 42 (fa 17 1),qc 44 42 (fa 2 43),qc 45 42 (lo 44),qc 46 42 (.lenS (.t 45)),qc 47 42 (.bin .gtr (.t 46) (qi 100)),Qq 48 42 47,Qm 49 48,qc 50 49 (fa 23 1),qc 51 49 (lo 50),qc 52 49 (.lenS (.t 51)),qc 53 49 (.bin .gtr (.t 52) (qi 100)),Qq 54 49 53,Qm 55 54,qc 56 55 (fa 24 1),qc 57 55 (lo 56),qc 58 55 (.len (.t 57)),qc 59 55 (.bin .gtr (.t 58) (qi 2)),Qq 60 55 59,Qm 61 60,qc 62 61 (fa 5 1),qc 63 61 (lm 8 62),qc 64 61 (.call (.f 43) [.t 63,qi 30]),qc 65 61 (.not (.t 64)),Qq 66 61 65] [1,66] (.cond (.t 66) Zb0 .skip)) (qs (qR [Qi 3 0] [1,3] (qs (.block 0 (.loop (qs (qR [Qm 67 3,Qa 68 13 1,Qo 69 68,Qn 70 69,Qv 71 .lss 67 70] [1,3,71] (qX 71)) (qs (qs (.block 1 (qR [Qa 74 13 1,Qo 75 74,Qm 76 3,Qx 77 1 75 76,Qo 78 77,QN 79 78,Qu 80 .gtr 79 100] [1,3,80] (.cond (.t 80) Zb0 .skip))) (qr [] [1,3])) (qr [Qm 72 3,Qu 73 .add 72 1,Qm 3 73] [1,3]))))) (qr [] [1]))) (qs (qR [Qi 4 0] [1,4] (qs (.block 2 (.loop (qs (qR [Qm 81 4,Qa 82 14 1,Qo 83 82,Qn 84 83,Qv 85 .lss 81 84] [1,4,85] (.cond (.t 85) .skip (.exit 2))) (qs (qs (.block 3 (qR [Qa 88 14 1,Qo 89 88,Qm 90 4,Qx 91 1 89 90,Qo 92 91,QN 93 92,Qu 94 .gtr 93 100] [1,4,94] (.cond (.t 94) Zb0 .skip))) (qr [] [1,4])) (qr [Qm 86 4,Qu 87 .add 86 1,Qm 4 87] [1,4]))))) (qr [] [1]))) (qs (qR [Qi 5 0] [1,5] (qs (.block 4 (.loop (qs (qR [Qm 95 5,Qa 96 1 1,Qo 97 96,Qn 98 97,Qv 99 .lss 95 98] [1,5,99] (.cond (.t 99) .skip (.exit 4))) (qs (qs (.block 5 (qR [Qa 102 1 1,Qo 103 102,Qm 104 5,Qx 105 2 103 104,Qa 106 1 105,Qo 107 106,QN 108 107,Qu 109 .gtr 108 100] [1,5,109] (.cond (.t 109) Zb0 .skip))) (qr [] [1,5])) (qr [Qm 100 5,Qu 101 .add 100 1,Qm 5 101] [1,5]))))) (qr [] [1]))) (qs (qR [Qi 6 0] [1,6] (qs (.block 6 (.loop (qs (qR [Qm 110 6,Qa 111 2 1,Qo 112 111,Qn 113 112,Qv 114 .lss 110 113] [1,6,114] (.cond (.t 114) .skip (.exit 6))) (qs (qs (.block 7 (qR [Qa 117 2 1,Qo 118 117,Qm 119 6,Qx 120 2 118 119,Qa 121 1 120,Qo 122 121,QN 123 122,Qu 124 .gtr 123 100] [1,6,124] (.cond (.t 124) Zb0 .skip))) (qr [] [1,6])) (qr [Qm 115 6,Qu 116 .add 115 1,Qm 6 116] [1,6]))))) (qr [] [1]))) (qs (qR [Qi 7 0] [1,7] (qs (.block 8 (.loop (qs (qR [Qm 125 7,Qa 126 24 1,Qo 127 126,Qn 128 127,Qv 129 .lss 125 128] [1,7,129] (.cond (.t 129) .skip (.exit 8))) (qs (qs (.block 9 (qR [Qa 132 24 1,Qo 133 132,Qm 134 7,Qx 135 25 133 134,Qa 136 24 135,Qo 137 136,Qn 138 137,Qu 139 .gtr 138 0,Qm 140 139,qb 141 140 (fa 24 1),qb 142 140 (lo 141),Bm 143 140 7,qb 144 140 (.indexA 25 (.t 142) (.t 143)),qb 145 140 (fa 24 144),qb 146 140 (lo 145),qb 147 140 (.indexA 25 (.t 146) (qi 0)),qb 148 140 (fa 24 147),qb 149 140 (lo 148),qb 150 140 (.len (.t 149)),qb 151 140 (.bin .gtr (.t 150) (qi 0)),Qp 152 140 151,Qm 153 152,qc 154 153 (fa 24 1),qc 155 153 (lo 154),Ym 156 153 7,qc 157 153 (.indexA 25 (.t 155) (.t 156)),qc 158 153 (lm 25 157),qc 159 153 (.call (.f 68) [.t 158]),qc 160 153 (.not (.t 159)),Qq 161 153 160] [1,7,161] (.cond (.t 161) Zb0 .skip))) (qr [] [1,7])) (qr [Qm 130 7,Qu 131 .add 130 1,Qm 7 131] [1,7]))))) (qr [] []))) Zb3))))))
theorem c68:FB 68 [2000001]=some (r68,s68):=by kernel_rfl
def r74:RL:=[(2,none)]
def s74:SCode:=qR [qa 2 (.mov (.c (.str [])))] [0] (qs (qR [Qm 3 0,Qu 4 .lss 3 0,Qm 5 4,Ym 6 5 0,qc 7 5 (.bin .geq (.t 6) (qi 8)),Qq 8 5 7] [0,8] (.cond (.t 8) (qR [qa 2 (.mov (.c (.str [])))] [2] .ret) .skip)) (qR [Qm 9 0,qa 10 (.indexP 8 1 (.g 0) (.t 9)),Qo 11 10,Qm 2 11] [2] .ret))
theorem c74:FB 74 []=some (r74,s74):=by kernel_rfl
def r77:RL:=[(4,none)]
def s77:SCode:=qR [Qf 4] [0,1] (qR [Qm 5 0,Qu 6 .geq 5 0,Qm 7 6,Bm 8 7 0,qb 9 7 (.bin .lss (.t 8) (qi 8)),Qp 10 7 9,Qm 11 10,Bm 12 11 0,qb 13 11 (.indexP 8 1 (.g 1) (.t 12)),qb 14 11 (lo 13),Bm 15 11 1,qb 16 11 (.call (.f 131) [.t 14,.t 15]),Qp 17 11 16,Qm 4 17] [4] .ret)
theorem c77:FB 77 []=some (r77,s77):=by kernel_rfl
def r80:RL:=[(2,none)]
def s80:SCode:=qR [Qb 1 8 0,Qf 2] [1] (qs (qR [Qa 4 4 1,Qo 5 4,QN 6 5,Qu 7 .gtr 6 30,Qm 8 7,qc 9 8 (fa 5 1),qc 10 8 (lo 9),qc 11 8 (.call (.f 132) [.t 10]),qc 12 8 (.not (.t 11)),Qq 13 8 12,Qm 14 13,qc 15 14 (fa 6 1),qc 16 14 (lo 15),qc 17 14 (.call (.f 132) [.t 16]),qc 18 14 (.not (.t 17)),Qq 19 14 18] [1,19] (.cond (.t 19) Zb0 .skip)) (qs (qR [Qi 3 0] [1,3] (qs (.block 0 (.loop (qs (qR [Qm 20 3,Qa 21 7 1,Qo 22 21,Qn 23 22,Qv 24 .lss 20 23] [1,3,24] (qX 24)) (qs (qs (.block 1 (qR [Qa 27 7 1,Qo 28 27,Qm 29 3,Qx 30 8 28 29,Ql 31 8 30,Q1 32 80 31,Qr 33 32] [1,3,33] (.cond (.t 33) Zb0 .skip))) (qr [] [1,3])) (qr [Qm 25 3,Qu 26 .add 25 1,Qm 3 26] [1,3]))))) (qr [] []))) Zb3))
theorem c80:FB 80 [2000001]=some (r80,s80):=by kernel_rfl
def r98:RL:=[(2,none)]
def s98:SCode:=qR [Qz 2] [0] (qR [qa 5 (.buildS 9 1 0 [] []),Qm 3 5] [0,3] (qs (qR [Qi 4 0] [0,3,4] (qs (.block 0 (.loop (qs (qR [Qm 6 4,Qm 7 0,Qn 8 7,Qv 9 .lss 6 8] [0,3,4,9] (qX 9)) (qs (qs (.block 1 (qr [Qm 12 3,Qm 13 0,Qm 14 4,Qx 15 4 13 14,Qa 16 0 15,Qo 17 16,qa 18 (.buildS 9 1 1 [.str []] [(0,.t 17)]),Qw 19 9 1 16 12 18,Qm 3 19] [0,3,4])) (qr [] [0,3,4])) (qr [Qm 10 4,Qu 11 .add 10 1,Qm 4 11] [0,3,4]))))) (qr [] [3]))) (qR [Qm 20 3,Qm 2 20] [2] .ret)))
theorem c98:FB 98 []=some (r98,s98):=by kernel_rfl
def r116:RL:=[(2,none)]
def s116:SCode:=qR [Qf 2] [0] (qR [Qm 3 0,Qu 4 .geq 3 0,Qm 5 4,Bm 6 5 0,qb 7 5 (.bin .leq (.t 6) (qi 6)),Qp 8 5 7,Qm 2 8] [2] .ret)
theorem c116:FB 116 []=some (r116,s116):=by kernel_rfl
def r119:RL:=[(2,none)]
def s119:SCode:=qR [Qb 1 3 0,Qf 2] [1] (qs (qR [Qa 3 0 1,Qo 4 3] [1,4] (qs (.block 0 (qs (qR [Qu 6 .eql 4 0,Qm 5 6] [1,4,5] (.cond (.t 5) .skip (qr [Qu 7 .eql 4 2,Qm 5 7] [1,4,5]))) (.cond (.t 5) (qR [Qa 8 1 1,Qo 9 8,Qu 10 .eql 9 0,Qm 11 10,qb 12 11 (fa 2 1),qb 13 11 (lo 12),qb 14 11 (.bin .eql (.t 13) (.c (.str []))),Qp 15 11 14,Qm 2 15] [2] .ret) (qR [Qu 17 .eql 4 1,Qm 16 17] [1,4,16] (.cond (.t 16) (qR [Qa 18 1 1,Qo 19 18,qa 20 (.call (.f 170) [.t 19,qi 0,qi 1048576]),Qm 21 20,qb 22 21 (fa 2 1),qb 23 21 (lo 22),qb 24 21 (.bin .eql (.t 23) (.c (.str []))),Qp 25 21 24,Qm 2 25] [2] .ret) (qR [Qu 27 .eql 4 3,Qm 26 27] [1,26] (.cond (.t 26) (qR [Qa 28 1 1,Qo 29 28,Qu 30 .eql 29 0,Qm 31 30,qb 32 31 (fa 2 1),qb 33 31 (lo 32),qb 34 31 (.call (.f 118) [.t 33]),Qp 35 31 34,Qm 2 35] [2] .ret) .skip))))))) (qr [] []))) Zb0)
theorem c119:FB 119 [2000001]=some (r119,s119):=by kernel_rfl
def r125:RL:=[(2,none)]
def s125:SCode:=qR [Qf 2] [0] (qR [Qm 3 0,Qn 4 3,Qu 5 .leq 4 256,Qm 6 5,Bm 7 6 0,qb 8 6 (.call (.f 98) [.t 7]),qb 9 6 (.call (.f 186) [.t 8]),Qp 10 6 9,Qm 2 10] [2] .ret)
theorem c125:FB 125 []=some (r125,s125):=by kernel_rfl
def r128:RL:=[(2,none)]
def s128:SCode:=qR [Qf 2] [0] (qR [Qm 3 0,qa 4 (.bin .lss (.t 3) (.c (.int .i32 65))),Qm 5 4,Ym 6 5 0,qc 7 5 (.bin .gtr (.t 6) (.c (.int .i32 90))),Qq 8 5 7,Qm 2 8] [2] .ret)
theorem c128:FB 128 []=some (r128,s128):=by kernel_rfl
def r131:RL:=[(4,none)]
def s131:SCode:=qR [Qf 4] [0,1] (qR [Qm 5 0,Qm 6 1,Q2 7 147 5 6,Qu 8 .geq 7 0,Qm 4 8] [4] .ret)
theorem c131:FB 131 []=some (r131,s131):=by kernel_rfl
def r152:RL:=[(2,none)]
def s152:SCode:=qR [Qf 2] [0] (qR [Qm 3 0,qa 4 (.call (.f 170) [.t 3,qi 0,qi 3]),Qm 2 4] [2] .ret)
theorem c152:FB 152 []=some (r152,s152):=by kernel_rfl
def r155:RL:=[(2,none)]
def s155:SCode:=qR Zb6 [] Zb3
theorem c155:FB 155 [2000001]=some (r155,s155):=by kernel_rfl
def r158:RL:=[(4,none)]
def s158:SCode:=qR [Qf 4] [0,1] (qR [Qm 5 0,Q1 6 130 5,Qm 7 6,Bm 8 7 0,qb 9 7 (.len (.t 8)),Bm 10 7 1,qb 11 7 (.bin .geq (.t 9) (.t 10)),Qp 12 7 11,Qm 4 12] [4] .ret)
theorem c158:FB 158 []=some (r158,s158):=by kernel_rfl
def r161:RL:=[(2,none)]
def s161:SCode:=qR Zb6 [1] (qR [Qa 3 13 1,Qo 4 3,qa 5 (.call (.f 158) [.t 4,qi 0]),Qm 6 5,qb 7 6 (fa 14 1),qb 8 6 (lo 7),qb 9 6 (.call (.f 158) [.t 8,qi 1]),Qp 10 6 9,Qm 11 10,qb 12 11 (lm 25 1),qb 13 11 (.call (.f 159) [.t 12]),Qp 14 11 13,Qm 15 14,qb 16 15 (fa 13 1),qb 17 15 (lo 16),qb 18 15 (.len (.t 17)),qb 19 15 (.bin .gtr (.t 18) (qi 0)),Bm 20 15 19,qc 21 20 (fa 4 1),qc 22 20 (lo 21),qc 23 20 (.bin .eql (.t 22) (qi 0)),qb 24 15 (.pick (.t 20) qt (.t 23)),Qp 25 15 24,Qm 2 25] [2] .ret)
theorem c161:FB 161 [2000001]=some (r161,s161):=by kernel_rfl
def r164:RL:=[(2,some (true,25))]
def s164:SCode:=qR [Qb 1 25 0,qa 2 (.alloc 61 zItm)] [1,2] (qR [Qa 3 15 1,Qo 4 3,qa 5 (.build zItm [(15,(1,.t 4))]),QS 25 2 5] [2] .ret)
theorem c164:FB 164 [2000001]=some (r164,s164):=by kernel_rfl
def r167:RL:=[(2,none)]
def s167:SCode:=qR Zb6 [1] (qR [Qa 3 3 1,Qo 4 3,Q1 5 152 4,Qm 6 5,qb 7 6 (fa 2 1),qb 8 6 (lo 7),qb 9 6 (.call (.f 117) [.t 8]),Qp 10 6 9,Qm 2 10] [2] .ret)
theorem c167:FB 167 [2000001]=some (r167,s167):=by kernel_rfl
def r170:RL:=[(6,none)]
def s170:SCode:=qR [Qf 6] [0,1,2] (qR [Qm 7 0,Qm 8 1,Qv 9 .geq 7 8,Qm 10 9,Bm 11 10 0,Bm 12 10 2,qb 13 10 (.bin .leq (.t 11) (.t 12)),Qp 14 10 13,Qm 6 14] [6] .ret)
theorem c170:FB 170 []=some (r170,s170):=by kernel_rfl
def r173:RL:=[(4,none)]
def s173:SCode:=qR [Qb 2 25 0,Qf 4] [1,2] (qR [Qa 5 20 2,Qo 6 5,qa 7 (.call (.f 170) [.t 6,qi 1,qi 1048576]),Qm 8 7,qb 9 8 (fa 21 2),qb 10 8 (lo 9),Bm 11 8 1,qb 12 8 (.call (.f 170) [.t 10,.t 11,qi 31]),Qp 13 8 12,Qm 4 13] [4] .ret)
theorem c173:FB 173 [2000002]=some (r173,s173):=by kernel_rfl
def r176:RL:=[(4,none)]
def s176:SCode:=qR [Qf 4] [0,1] (qs Zb1 (qs (qR [Qm 11 0,Qn 12 11,Qi 13 0] [0,1,12,13] (qs (.block 0 (.loop (qR [Qv 14 .lss 13 12] [0,1,12,13,14] (qs (qX 14) (qs (qs (.block 1 (qR [Qm 15 13,Qm 5 15] [0,1,5,12,13] (qs (.draw [Qm 16 0,Qm 17 5,Qx 18 2 16 17,Ql 19 2 18,Qm 20 1,Qm 21 5,Qx 22 2 20 21,Ql 23 2 22,qa 24 (.eqs true [1,2] (.t 19) (.t 23))] [0,1,12,13,24]) Zb5))) (qr [] [0,1,12,13])) Zb4))))) (qr [] []))) (qR [Qt 4] [4] .ret)))
theorem c176:FB 176 []=some (r176,s176):=by kernel_rfl
def r191:RL:=[(2,none)]
def s191:SCode:=qR [Qf 2] [0] (qR [Qm 3 0,Q1 4 192 3,Qr 5 4,Qm 2 5] [2] .ret)
theorem c191:FB 191 []=some (r191,s191):=by kernel_rfl
def r203:RL:=[(2,none),(3,none)]
def s203:SCode:=qR [Qb 1 8 0,qa 2 (.mov (.c (.str []))),Qi 3 0] [1] (qR [Ql 6 8 1,Q1 7 254 6,Qm 4 7] [4] (qs (qR [Qm 8 4,Qn 9 8,Qu 10 .eql 9 0] [4,10] (.cond (.t 10) (qR [qa 2 (.mov (.c (.str []))),Qi 3 1] [2,3] .ret) .skip)) (qR [Qm 11 4,qa 12 (.call (.f 255) [.t 11,.c (.str [10])]),qa 13 (.bin .add (.t 12) (.c (.str [10]))),Qm 5 13] [5] (qs (qR [Qm 14 5,QN 15 14,Qu 16 .gtr 15 16384] [5,16] (.cond (.t 16) (qR [qa 2 (.mov (.c (.str []))),Qi 3 6] [2,3] .ret) .skip)) (qR [Qm 17 5,Qm 2 17,Qi 3 0] [2,3] .ret)))))
theorem c203:FB 203 [2000001]=some (r203,s203):=by kernel_rfl
def r212:RL:=[(4,none)]
def s212:SCode:=qR [Qf 4] [0,1] (qs Zb1 (qs (qR [Qm 11 0,Qn 12 11,Qi 13 0] [0,1,12,13] (qs (.block 0 (.loop (qR [Qv 14 .lss 13 12] [0,1,12,13,14] (qs (qX 14) (qs (qs (.block 1 (qR [Qm 15 13,Qm 5 15] [0,1,5,12,13] (qs (.draw [Qm 16 0,Qm 17 5,Qx 18 4 16 17,Ql 19 4 18,Qm 20 1,Qm 21 5,Qx 22 4 20 21,Ql 23 4 22,qa 24 (.eqs true [2,1,1,1] (.t 19) (.t 23))] [0,1,12,13,24]) Zb5))) (qr [] [0,1,12,13])) Zb4))))) (qr [] []))) (qR [Qt 4] [4] .ret)))
theorem c212:FB 212 []=some (r212,s212):=by kernel_rfl
def r242:RL:=[(4,none)]
def s242:SCode:=qR [Qf 4] [0,1] (qR [Qm 5 0,Qm 6 1,Q2 7 290 5 6,Qu 8 .geq 7 0,Qm 4 8] [4] .ret)
theorem c242:FB 242 []=some (r242,s242):=by kernel_rfl
def r254:RL:=[(2,none)]
def s254:SCode:=qR [Qb 1 8 0,Qz 2] [1] (qs (qR [Ql 5 8 1,Q1 6 142 5,Q1 7 9 6,Qr 8 7] [1,8] (.cond (.t 8) (qR [Qz 2] [2] .ret) .skip)) (qR [qa 3 (.alloc 57 [.nil])] [1,3] (qR [qa 4 (.alloc 314 [.sc .nilFunc])] [1,3,4] (qR [qa 9 (.mkfun (.func 298) [] [.t 3,.t 4]),QS 1 4 9] [1,3,4] (qR [Qo 10 4,Ql 11 8 1,qa 12 (.call (.t 10) [.t 11,qi 0])] [3] (qR [Qo 13 3,Qm 2 13] [2] .ret))))))
theorem c254:FB 254 [2000001]=some (r254,s254):=by kernel_rfl
def r257:RL:=[(2,none)]
def s257:SCode:=qR [Qb 1 4 0,Qf 2] [1] (qR [Qa 3 1 1,Ql 4 3 3,qa 5 (.build Zb2 []),qa 6 (.eqs true [1,1,1] (.t 4) (.t 5)),Qm 2 6] [2] .ret)
theorem c257:FB 257 [2000001]=some (r257,s257):=by kernel_rfl
def r290:RL:=[(4,none)]
def s290:SCode:=qR [Qi 4 0] [0,1] (qs (qR [Qm 6 0,Qn 7 6,Qi 8 0] [0,1,7,8] (qs (.block 0 (.loop (qR [Qv 9 .lss 8 7] [0,1,7,8,9] (qs (qX 9) (qs (qs (.block 1 (qR [Qm 10 8,Qm 5 10] [0,1,5,7,8] (qR [Qm 11 1,Qm 12 0,Qm 13 5,Qx 14 1 12 13,Qo 15 14,qa 16 (.call (.t 11) [.t 15])] [0,1,5,7,8,16] (.cond (.t 16) (qR [Qm 17 5,Qm 4 17] [4] .ret) .skip)))) (qr [] [0,1,7,8])) (qr [Qu 18 .add 8 1,Qm 8 18] [0,1,7,8])))))) (qr [] []))) (qR [Qi 4 (-1)] [4] .ret))
theorem c290:FB 290 []=some (r290,s290):=by kernel_rfl
def r299:RL:=[(4,none)]
def s299:SCode:=qR [Qb 2 8 0,qa 4 (.mov (.c (.str [])))] [1,2] (qs (qR [Ql 6 8 2,Qm 7 1,Q2 8 345 6 7,Qr 9 8] [1,2,9] (.cond (.t 9) (qR [qa 4 (.mov (.c (.str [])))] [4] .ret) .skip)) (qs (.drawL [Qm 10 1,Qa 12 3 2,qa 13 (.loadF false 1 (.t 12)),qa 11 (.call (.f 346) [.c (.str [32,32]),.t 10]),Q1 14 74 13,Qv 15 .add 11 14,Qm 5 15] [2,5]) (qs (qR [Qa 16 3 2,Qo 17 16,Qu 18 .neq 17 0] [2,5,18] (.cond (.t 18) (qr [Qm 19 5,Qa 20 4 2,Qo 21 20,qa 22 (.bin .add (.c (.str [32])) (.t 21)),Qv 23 .add 19 22,Qm 5 23] [2,5]) .skip)) (qs (qR [Qa 24 5 2,Qo 25 24,Qn 26 25,Qu 27 .gtr 26 0] [2,5,27] (.cond (.t 27) (qr [Qm 28 5,qa 29 (.bin .add (.t 28) (.c (.str [58]))),Qa 30 5 2,Qo 31 30,Q2 32 347 29 31,Qm 5 32] [2,5]) .skip)) (qs (qR [Qa 33 6 2,Qo 34 33,Qn 35 34,Qu 36 .gtr 35 0] [2,5,36] (.cond (.t 36) (qr [Qm 37 5,qa 38 (.bin .add (.t 37) (.c (.str [32,124]))),Qa 39 6 2,Qo 40 39,Q2 41 347 38 40,Qm 5 41] [5]) .skip)) (qR [Qm 42 5,Qm 4 42] [4] .ret))))))
theorem c299:FB 299 [2000002]=some (r299,s299):=by kernel_rfl
def r347:RL:=[(4,none)]
def s347:SCode:=qR [qa 4 (.mov (.c (.str [])))] [0,1] (qs (qR [Qm 7 1,Qn 8 7,Qi 9 0] [0,7,8,9] (qs (.block 0 (.loop (qR [Qv 10 .lss 9 8] [0,7,8,9,10] (qs (qX 10) (qs (qs (.block 1 (qR [Qx 11 4 7 9,Ql 12 4 11,qa 6 (.alloc 88 [.str [],.int .i64 0,.int .i64 0,.int .i64 0]),QS 4 6 12] [0,6,7,8,9] (qR [Qm 13 0,qa 14 (.bin .add (.t 13) (.c (.str [32]))),Qm 0 14] [0,6,7,8,9] (qs (qR [Qa 15 0 6,Qo 16 15,qa 17 (.index (.t 16) (qi 0)),qa 18 (.bin .eql (.t 17) (.c (.int .u8 124))),Qm 19 18,qc 20 19 (fa 0 6),qc 21 19 (lo 20),qc 22 19 (.index (.t 21) (qi 0)),qc 23 19 (.bin .eql (.t 22) (.c (.int .u8 92))),Qq 24 19 23] [0,6,7,8,9,24] (.cond (.t 24) (qr [Qm 25 0,qa 26 (.bin .add (.t 25) (.c (.str [92]))),Qm 0 26] [0,6,7,8,9]) .skip)) (qr [Qm 27 0,Qa 28 0 6,Qo 29 28,Qv 30 .add 27 29,Qm 0 30] [0,7,8,9]))))) (qr [] [0,7,8,9])) (qr [Qu 31 .add 9 1,Qm 9 31] [0,7,8,9])))))) (qr [] [0]))) (qR [Qm 32 0,Qm 4 32] [4] .ret))
theorem c347:FB 347 []=some (r347,s347):=by kernel_rfl
def r422:RL:=[(2,some (true,25))]
def s422:SCode:=qR [Qb 1 25 0,qa 2 (.alloc 61 zItm)] [1,2] (qR [Qa 3 20 1,Qo 4 3,Qa 5 21 1,Qo 6 5,Qa 7 22 1,Qo 8 7,qa 9 (.build zItm [(20,(1,.t 4)),(21,(1,.t 6)),(22,(1,.t 8))]),QS 25 2 9] [2] .ret)
theorem c422:FB 422 [2000001]=some (r422,s422):=by kernel_rfl
end Go.Av
namespace Go.Av
open Go Go.RowKit Go.Proofs List
set_option linter.unusedSimpArgs false
set_option linter.unusedVariables false
def inR (n lo hi:Int):Bool:=decide (lo<=n)&&decide (n<=hi)
def bt (p k:Int):Bool:=
 if p=0 then decide (k=1)||decide (k=2)else if p=1 then decide (k=2)else if p=2\/p=3 then decide (k=3)||decide (k=4)||decide (k=7)else if p=4 then decide (k=5)else if p=5 then decide (k=6)else false
section
variable (G:Glob)
theorem f170 (n lo hi:Int):Pure G Tryz.prog 170 [.int .i64 n,.int .i64 lo,.int .i64 hi] (.bool (inR n lo hi)):=by
 refine Pure.w c170 λR hR=>?_
 unfold s170 r170
 (repeat' (first|(with_reducible (refine ai (λh=>?_) (λh=>?_))<;>(try simp only[DZ]at h))|simp only[EVz,seval,↓reduceIte,EV6,EV7]))
 (all_goals(((refine RET.eq hR ?_;(refine congrArg AV.bool (Bool.eq_iff_iff.2 ?_);simp only[inR,EVB]at*;omega)))))
theorem f73 (p k:Int):Pure G Tryz.prog 73 [.int .i64 p,.int .i64 k] (.bool (bt p k)):=by
 refine Pure.w c73 λR hR=>?_
 unfold s73 r73
 (repeat' (first|(with_reducible (first|refine ab (λh=>?_) (λh=>?_)|refine ai (λh=>?_) (λh=>?_))<;>(try simp only[DZ]at h))|simp only[EVz,seval,↓reduceIte,EV6,EV7]|(exfalso;omega)))
 (all_goals(((refine RET.eq hR ?_;((simp_all[bt];done))))))
end
def iz:Itm:=⟨0,[],[],0,0,⟨⟨0,0,0⟩,0,[],[],[],[]⟩,[],[],[],[],⟨0,0,[]⟩,0,0,0,[],[]⟩
section
variable (G:Glob)
theorem f116 (k:Int):Pure G Tryz.prog 116 [.int .i64 k] (.bool (inR k 0 6)):=by
 refine Pure.w c116 λR hR=>?_
 unfold s116 r116
 (repeat' (first|(with_reducible (refine ai (λh=>?_) (λh=>?_))<;>(try simp only[DZ]at h))|simp only[EVz,seval,↓reduceIte,EV6,EV7]))
 (all_goals(((refine RET.eq hR ?_;(refine congrArg AV.bool (Bool.eq_iff_iff.2 ?_);simp only[inR,EVB]at*;omega)))))
theorem f174 (k:Int) (l:List UInt8):Pure G Tryz.prog 174 [.agg [.int .i64 k,.str l]] (.bool (decide (k=0)&&decide (l=[]))):=by
 refine Pure.w c174 λR hR=>?_
 unfold s174 r174
 (repeat' (first|(with_reducible (refine ai (λh=>?_) (λh=>?_))<;>(try simp only[DZ]at h))|simp only[EVz,seval,↓reduceIte,EV6,EV7]))
 (all_goals(first|(refine RET.eq hR ?_;(refine congrArg AV.bool (Bool.eq_iff_iff.2 ?_);simp only[EVB]at*;omega))|(refine RET.eq hR ?_;((simp_all[];done)))))
theorem f152 (k:Int):Pure G Tryz.prog 152 [.int .i64 k] (.bool (inR k 0 3)):=by
 refine Pure.w c152 λR hR=>?_
 unfold s152 r152
 (repeat' (first|(with_reducible refine aa (f170 G _ _ _) ?_)|simp only[EVz,seval,↓reduceIte,EV6,EV7]))
 (all_goals((exact RET.eq hR rfl)))
theorem f159 (x:Itm):Pure G Tryz.prog 159 [.agg x.cs] (.bool (inR x.nth 0 256)):=by
 refine Pure.w c159 λR hR=>?_
 unfold s159 r159
 (repeat' (first|(with_reducible refine aa (f170 G _ _ _) ?_)|simp only[EVz,seval,↓reduceIte,EV6,EV7]))
 (all_goals((exact RET.eq hR rfl)))
theorem f173 (x:Itm) (n:Int):Pure G Tryz.prog 173 [.agg x.cs,.int .i64 n] (.bool (inR x.act 1 1048576&&inR x.item n 31)):=by
 refine Pure.w c173 λR hR=>?_
 unfold s173 r173
 (repeat' (first|(with_reducible (refine ai (λh=>?_) (λh=>?_))<;>(try simp only[DZ]at h))|(with_reducible refine aa (f170 G _ _ _) ?_)|simp only[EVz,seval,↓reduceIte,EV6,EV7]))
 (all_goals(((refine RET.eq hR ?_;((simp_all[];done))))))
theorem f150 (x:Itm):Pure G Tryz.prog 150 [.agg x.cs] (.agg (Itm.cs {iz with wh:=x.wh,unit:=x.unit})):=by
 refine Pure.w c150 λR hR=>?_
 unfold s150 r150
 (repeat' (first|simp only[EVz,seval,↓reduceIte,EV6,EV7]|(with_reducible intro blk hblk;(try(have hnx:=hblk;simp only[EVK]at hnx;(have hne:=hnx))))))
 (all_goals(((refine hR _ _ (Or.inr ?_);simp[*,br,aU,Itm.cs_eq,U.cs_eq,iz];done))))
theorem f154 (x:Itm):Pure G Tryz.prog 154 [.agg x.cs] (.agg (Itm.cs iz)):=by
 refine Pure.w c154 λR hR=>?_
 unfold s154 r154
 (repeat' (first|simp only[EVz,seval,↓reduceIte,EV6,EV7]|(with_reducible intro blk hblk;(try(have hnx:=hblk;simp only[EVK]at hnx;(have hne:=hnx))))))
 (all_goals(((refine hR _ _ (Or.inr ?_);simp[*,br,aU,Itm.cs_eq,U.cs_eq,iz];done))))
theorem f155 (x:Itm):Pure G Tryz.prog 155 [.agg x.cs] (.bool true):=by
 refine Pure.w c155 λR hR=>?_
 unfold s155 r155
 (repeat' (simp only[EVz,seval,↓reduceIte,EV6,EV7]))
 (all_goals((exact RET.eq hR rfl)))
theorem f156 (x:Itm):Pure G Tryz.prog 156 [.agg x.cs] (.agg (Itm.cs {iz with old:=x.old,new:=x.new,nth:=x.nth})):=by
 refine Pure.w c156 λR hR=>?_
 unfold s156 r156
 (repeat' (first|simp only[EVz,seval,↓reduceIte,EV6,EV7]|(with_reducible intro blk hblk;(try(have hnx:=hblk;simp only[EVK]at hnx;(have hne:=hnx))))))
 (all_goals(((refine hR _ _ (Or.inr ?_);simp[*,br,aU,Itm.cs_eq,U.cs_eq,iz];done))))
theorem f160 (x:Itm):Pure G Tryz.prog 160 [.agg x.cs] (.agg (Itm.cs {iz with old:=x.old,new:=x.new,nth:=x.nth})):=by
 refine Pure.w c160 λR hR=>?_
 unfold s160 r160
 (repeat' (first|simp only[EVz,seval,↓reduceIte,EV6,EV7]|(with_reducible intro blk hblk;(try(have hnx:=hblk;simp only[EVK]at hnx;(have hne:=hnx))))))
 (all_goals(((refine hR _ _ (Or.inr ?_);simp[*,br,aU,Itm.cs_eq,U.cs_eq,iz];done))))
theorem f162 (x:Itm):Pure G Tryz.prog 162 [.agg x.cs] (.agg (Itm.cs {iz with new:=x.new})):=by
 refine Pure.w c162 λR hR=>?_
 unfold s162 r162
 (repeat' (first|simp only[EVz,seval,↓reduceIte,EV6,EV7]|(with_reducible intro blk hblk;(try(have hnx:=hblk;simp only[EVK]at hnx;(have hne:=hnx))))))
 (all_goals(((refine hR _ _ (Or.inr ?_);simp[*,br,aU,Itm.cs_eq,U.cs_eq,iz];done))))
theorem f164 (x:Itm):Pure G Tryz.prog 164 [.agg x.cs] (.agg (Itm.cs {iz with label:=x.label})):=by
 refine Pure.w c164 λR hR=>?_
 unfold s164 r164
 (repeat' (first|simp only[EVz,seval,↓reduceIte,EV6,EV7]|(with_reducible intro blk hblk;(try(have hnx:=hblk;simp only[EVK]at hnx;(have hne:=hnx))))))
 (all_goals(((refine hR _ _ (Or.inr ?_);simp[*,br,aU,Itm.cs_eq,U.cs_eq,iz];done))))
theorem f166 (x:Itm):Pure G Tryz.prog 166 [.agg x.cs] (.agg (Itm.cs {iz with to_:=x.to_,wh:=x.wh})):=by
 refine Pure.w c166 λR hR=>?_
 unfold s166 r166
 (repeat' (first|simp only[EVz,seval,↓reduceIte,EV6,EV7]|(with_reducible intro blk hblk;(try(have hnx:=hblk;simp only[EVK]at hnx;(have hne:=hnx))))))
 (all_goals(((refine hR _ _ (Or.inr ?_);simp[*,br,aU,Itm.cs_eq,U.cs_eq,iz];done))))
theorem f168 (x:Itm):Pure G Tryz.prog 168 [.agg x.cs] (.agg (Itm.cs {iz with event:=x.event,day:=x.day})):=by
 refine Pure.w c168 λR hR=>?_
 unfold s168 r168
 (repeat' (first|simp only[EVz,seval,↓reduceIte,EV6,EV7]|(with_reducible intro blk hblk;(try(have hnx:=hblk;simp only[EVK]at hnx;(have hne:=hnx))))))
 (all_goals(((refine hR _ _ (Or.inr ?_);simp[*,br,aU,Itm.cs_eq,U.cs_eq,iz];done))))
theorem f171 (x:Itm):Pure G Tryz.prog 171 [.agg x.cs] (.agg (Itm.cs {iz with act:=x.act,item:=x.item,by_:=x.by_})):=by
 refine Pure.w c171 λR hR=>?_
 unfold s171 r171
 (repeat' (first|simp only[EVz,seval,↓reduceIte,EV6,EV7]|(with_reducible intro blk hblk;(try(have hnx:=hblk;simp only[EVK]at hnx;(have hne:=hnx))))))
 (all_goals(((refine hR _ _ (Or.inr ?_);simp[*,br,aU,Itm.cs_eq,U.cs_eq,iz];done))))
theorem f422 (x:Itm):Pure G Tryz.prog 422 [.agg x.cs] (.agg (Itm.cs {iz with act:=x.act,item:=x.item,day:=x.day})):=by
 refine Pure.w c422 λR hR=>?_
 unfold s422 r422
 (repeat' (first|simp only[EVz,seval,↓reduceIte,EV6,EV7]|(with_reducible intro blk hblk;(try(have hnx:=hblk;simp only[EVK]at hnx;(have hne:=hnx))))))
 (all_goals(((refine hR _ _ (Or.inr ?_);simp[*,br,aU,Itm.cs_eq,U.cs_eq,iz];done))))
theorem f423 (x:Itm):Pure G Tryz.prog 423 [.agg x.cs] (.bool (inR x.act 1 1048576&&inR x.item (-1) 31&&inR x.day 0 1048576)):=by
 refine Pure.w c423 λR hR=>?_
 unfold s423 r423
 (repeat' (first|(with_reducible (refine ai (λh=>?_) (λh=>?_))<;>(try simp only[DZ]at h))|(with_reducible first|refine aa (f173 G _ _) ?_|refine aa (f170 G _ _ _) ?_)|simp only[EVz,seval,↓reduceIte,EV6,EV7]))
 (all_goals(((refine RET.eq hR ?_;((simp_all[];done))))))
end
def okCh (c:UInt8):Bool:=decide ((33:Int)<=c.toNat)&&decide ((c.toNat:Int)<=126)
def bX (s:List UInt8):Bool:=decide ((1:Int)<=s.length)&&(decide ((s.length:Int)<=24)&&s.all okCh)
section
variable (G:Glob)
theorem f238 (s:List UInt8):Pure G Tryz.prog 238 [.str s] (.bool (bX s)):=by
 refine Pure.w c238 λR hR=>?_
 unfold s238 r238
 (repeat' (first|(with_reducible (first|refine ab (λh=>?_) (λh=>?_)|refine ai (λh=>?_) (λh=>?_))<;>(try simp only[DZ]at h))|simp only[EVz,seval,↓reduceIte,EV6,EV7,hx.yes,hx.le0,hx.lt',hx.get,hx.row,hw]|simp only[EVz,seval,↓reduceIte,EV6,EV7,hn]|simp only[EVz,seval,↓reduceIte,EV6,EV7]|(refine am hx () ?_ (Weak.rfl' _ _))|(refine ax (s) (λi r (c:Unit)=>s.all okCh=r.all okCh) (λi c=>[(0,.str s),(3,.int .i64 i)]) (λ_ _=>[]) () (by rfl) (Weak.rfl' _ _) (by omega) (λi x r c hok hx hw=>?_) (λc hok hn=>?_))))
 (all_goals(first|(refine RET.eq hR ?_;(refine congrArg AV.bool (Bool.eq_iff_iff.2 ?_);simp only[bX,okCh,EVB]at*;omega))|(refine RET.eq hR ?_;first|(simp_all[bX,okCh];done)|(simp_all[bX,okCh];omega))|(simp_all[bX,okCh];done)))
end
theorem eV {α:Type} [DecidableEq α] {a b:List α} {i:Nat} {x:α} {r:List α} (hok:a.length=b.length/\decide (a=b)=decide (x::r=b.drop i)) (hx:Rest a i x r):
  ∃y r',Rest b i y r'/\b.drop (i+1)=r'/\decide (a=b)=decide (x::r=y::r'):=by
 have h1:=hx.lt
 cases hd:b.drop i with
 |nil=>
  have:=congrArg List.length hd
  simp at this
  omega
 |cons y r'=>exact⟨y,r',ge hd,(ge hd).next,by rw[hok.2,hd]⟩
section
variable (G:Glob)
theorem f88 (a b:List (List UInt8)) (ha:a.length<9000000000000000000):Pure G Tryz.prog 88 [.lst 1 (a.map srow),.lst 1 (b.map srow)] (.bool (decide (a=b))):=by
 refine Pure.w c88 λR hR=>?_
 unfold s88 r88
 by_cases hl:a.length=b.length
 ·have e0:decide ((a.length:Int)≠(b.length:Int))=false:=by simp[hl]
  (repeat' (first|(with_reducible (refine ab (λh=>?_) (λh=>?_))<;>(try simp only[DZ]at h))|(with_reducible refine AI (by omega) ?_)|simp only[EVz,seval,↓reduceIte,EV6,EV7,e0,hx.yes,hx.le0,hx.lt',hx.get,hx.row,hw,hy.row,hy.lt']|simp only[EVz,seval,↓reduceIte,EV6,EV7,e0,hn]|simp only[EVz,seval,↓reduceIte,EV6,EV7,e0]|(refine am hx () ?_ (Weak.rfl' _ _))|(refine ax (a) (λi r (c:Unit)=>a.length=b.length/\decide (a=b)=decide (r=b.drop i)) (λi c=>[(0,.lst 1 (a.map srow)),(1,.lst 1 (b.map srow)),(12,.int .i64 a.length),(13,.int .i64 i)]) (λ_ _=>[]) () (by((simp[*];done))) (Weak.rfl' _ _) (by omega) (λi x r c hok hx hw=>?_) (λc hok hn=>?_)<;>(try(obtain⟨y,r2,hy,hyn,hok⟩:=eV hok hx;skip)))))
  (all_goals(first|(refine RET.eq hR ?_;((simp_all[hl];done)))|(simp_all[hl];done)))
 ·have e0:decide ((a.length:Int)≠(b.length:Int))=true:=by simp;omega
  have e1:decide (a=b)=false:=by simp;rintro rfl;exact hl rfl
  rw[e1]at hR
  (repeat' (simp only[EVz,seval,↓reduceIte,EV6,EV7,e0]))
  (all_goals((exact RET.eq hR rfl)))
theorem f176 (a b:List Stp) (ha:a.length<9000000000000000000):Pure G Tryz.prog 176 [.lst 2 (a.map Stp.cs),.lst 2 (b.map Stp.cs)] (.bool (decide (a=b))):=by
 refine Pure.w c176 λR hR=>?_
 unfold s176 r176
 by_cases hl:a.length=b.length
 ·have e0:decide ((a.length:Int)≠(b.length:Int))=false:=by simp[hl]
  (repeat' (first|(with_reducible (refine ab (λh=>?_) (λh=>?_))<;>(try simp only[DZ]at h))|(with_reducible refine AI (by omega) ?_)|simp only[EVz,seval,↓reduceIte,EV6,EV7,e0,hx.yes,hx.le0,hx.lt',hx.get,hx.row,hw,hy.row,hy.lt']|simp only[EVz,seval,↓reduceIte,EV6,EV7,e0,hn]|simp only[EVz,seval,↓reduceIte,EV6,EV7,e0]|(refine am hx () ?_ (Weak.rfl' _ _))|(refine ax (a) (λi r (c:Unit)=>a.length=b.length/\decide (a=b)=decide (r=b.drop i)) (λi c=>[(0,.lst 2 (a.map Stp.cs)),(1,.lst 2 (b.map Stp.cs)),(12,.int .i64 a.length),(13,.int .i64 i)]) (λ_ _=>[]) () (by((simp[*];done))) (Weak.rfl' _ _) (by omega) (λi x r c hok hx hw=>?_) (λc hok hn=>?_)<;>(try(obtain⟨y,r2,hy,hyn,hok⟩:=eV hok hx;(cases x;cases y))))))
  (all_goals(first|(refine RET.eq hR ?_;first|(simp_all[hl];done)|grind)|(simp_all[hl];done)))
 ·have e0:decide ((a.length:Int)≠(b.length:Int))=true:=by simp;omega
  have e1:decide (a=b)=false:=by simp;rintro rfl;exact hl rfl
  rw[e1]at hR
  (repeat' (simp only[EVz,seval,↓reduceIte,EV6,EV7,e0]))
  (all_goals((exact RET.eq hR rfl)))
theorem f212 (a b:List Wd) (ha:a.length<9000000000000000000):Pure G Tryz.prog 212 [.lst 4 (a.map Wd.cs),.lst 4 (b.map Wd.cs)] (.bool (decide (a=b))):=by
 refine Pure.w c212 λR hR=>?_
 unfold s212 r212
 by_cases hl:a.length=b.length
 ·have e0:decide ((a.length:Int)≠(b.length:Int))=false:=by simp[hl]
  (repeat' (first|(with_reducible (refine ab (λh=>?_) (λh=>?_))<;>(try simp only[DZ]at h))|(with_reducible refine AI (by omega) ?_)|simp only[EVz,seval,↓reduceIte,EV6,EV7,e0,hx.yes,hx.le0,hx.lt',hx.get,hx.row,hw,hy.row,hy.lt']|simp only[EVz,seval,↓reduceIte,EV6,EV7,e0,hn]|simp only[EVz,seval,↓reduceIte,EV6,EV7,e0]|(refine am hx () ?_ (Weak.rfl' _ _))|(refine ax (a) (λi r (c:Unit)=>a.length=b.length/\decide (a=b)=decide (r=b.drop i)) (λi c=>[(0,.lst 4 (a.map Wd.cs)),(1,.lst 4 (b.map Wd.cs)),(12,.int .i64 a.length),(13,.int .i64 i)]) (λ_ _=>[]) () (by((simp[*];done))) (Weak.rfl' _ _) (by omega) (λi x r c hok hx hw=>?_) (λc hok hn=>?_)<;>(try(obtain⟨y,r2,hy,hyn,hok⟩:=eV hok hx;(cases x;cases y))))))
  (all_goals(first|(refine RET.eq hR ?_;first|(simp_all[hl];done)|grind)|(simp_all[hl];done)))
 ·have e0:decide ((a.length:Int)≠(b.length:Int))=true:=by simp;omega
  have e1:decide (a=b)=false:=by simp;rintro rfl;exact hl rfl
  rw[e1]at hR
  (repeat' (simp only[EVz,seval,↓reduceIte,EV6,EV7,e0]))
  (all_goals((exact RET.eq hR rfl)))
end
end Go.Av
