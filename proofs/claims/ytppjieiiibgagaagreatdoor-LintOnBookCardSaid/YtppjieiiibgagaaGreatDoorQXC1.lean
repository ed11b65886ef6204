/-
  THE TRANSLATED CODE. Printed by mkcode2.py.
-/
import Derived.Test.YtppjieiiibgagaaGreatDoorQXDattoXCS
import Derived.Test.YtppjieiiibgagaaGreatDoorQXAv26toXGlob
import Derived.Test.YtppjieiiibgagaaGreatDoorProg
set_option linter.all false
namespace Go.Av
open Go List
abbrev Za16:SCode:=qr [Qm 8 3,Qu 9 .add 8 1,Qm 3 9] [0,3]
abbrev Za15:SCode:=qR [qa 4 (.mov (.c (.str [])))] [4] .ret
abbrev Za14:SCode:=qr [Qu 25 .add 13 1,Qm 13 25] [0,1,12,13]
abbrev Za13:DT:=.step (QS 2 3 11) (.step (Qm 4 12) .done)
abbrev Za12:SOper:=qa 10 (.raw (.lookup 172 (.tmp 7) (.tmp 9) true))
abbrev Za11:SCode:=qR [Qm 4 3,Qm 5 0,Qn 6 5,Qv 7 .lss 4 6] [0,3,7] (qX 7)
abbrev Za10:SCode:=qR [Qt 4] [4] .ret
abbrev Za9:SOper:=qa 3 (.alloc 170 [.sc .nilFunc,.sc .nilFunc])
abbrev Za8:List SOper:=[Qb 1 25 0,Qf 2]
abbrev Za7:List SOper:=[Qb 1 25 0,qa 2 (.alloc 34 zItm)]
abbrev Za6:SCode:=qR [Qf 4] [4] .ret
abbrev Za5:List AV:=[.i 0,.str [],.sc .nilFunc]
abbrev Za4:DT:=.step Za12 (.step (Qm 6 10) (.step (Qe 11 0 6) (.step (Qe 12 1 6) Za13)))
abbrev Za3:SCode:=qR [Qm 6 0,Qn 7 6,Qm 8 1,Qn 9 8,Qv 10 .neq 7 9] [0,1,10] (.cond (.t 10) Za6 .skip)
abbrev Za2:DT:=.step (Qa 12 5 1) (.step (Q1 11 65 10) (.step (QS 1 12 8) (.step (Qa 13 6 1) (.step (QS 1 13 11) .done))))
abbrev Za1:SCode:=qR [Qf 2] [2] .ret
abbrev Za0:List AV:=[.i 0,.i 0,.i 0,.i 0,.i 0,.str []]
def r30:RL:=[(2,none)]
def s30:SCode:=qR Za8 [1] (qs (qs (.drawL [Qa 5 0 1,qa 6 (.loadF false 1 (.t 5)),qa 7 (.call (.f 71) [.t 6,qi 0,qi 11]),Qr 8 7,Qm 9 8,qc 10 9 (.loadF true 25 (.t 1)),qc 11 9 (.loadF true 25 (.t 1)),qc 12 9 (.call (.f 72) [.t 11]),qc 13 9 (.call (.f 47) [.t 10,.t 12]),qc 14 9 (.not (.t 13)),Qq 15 9 14] [1,15]) (.cond (.t 15) Za1 .skip)) (qs (qR [Qa 16 0 1,Qo 17 16,Qu 18 .leq 17 6,Qm 19 18,qb 20 19 (fa 1 1),qb 21 19 (lo 20),qb 22 19 (.call (.f 73) [.t 21]),qb 23 19 (.not (.t 22)),Bm 24 19 23,qc 25 24 (fa 16 1),qc 26 24 (lo 25),qc 27 24 (.bin .neq (.t 26) (.c (.str []))),Ym 28 24 27,qb 29 28 (fa 16 1),qb 30 28 (lo 29),qb 31 28 (.call (.f 74) [.t 30]),qb 32 28 (.not (.t 31)),qc 33 24 (.pick (.t 28) (.t 32) qf),qb 34 19 (.pick (.t 24) qt (.t 33)),Bm 35 19 34,qc 36 35 (fa 17 1),qc 37 35 (lm 3 36),qc 38 35 (.call (.f 75) [.t 37]),qc 39 35 (.not (.t 38)),qb 40 19 (.pick (.t 35) qt (.t 39)),Qp 41 19 40] [1,41] (.cond (.t 41) Za1 .skip)) (qs (qR [Qa 42 0 1,Qo 43 42] [1,43] (qs (.block 0 (qR [Qu 45 .eql 43 0,Qm 44 45] [1,43,44] (.cond (.t 44) (qR [Qa 47 5 1,Ql 48 8 47,Q1 49 76 48,Qm 46 49,Qe 50 0 46,Qe 51 1 46,Qm 3 50,Qm 4 51] [1,4] (qR [Qa 52 3 1,Qo 53 52,qa 54 (.call (.f 71) [.t 53,qi 0,qi 3]),Qm 55 54,qb 56 55 (fa 5 1),qb 57 55 (lm 8 56),qb 58 55 (.call (.f 77) [.t 57]),Qp 59 55 58,Qm 60 59,qb 61 60 (fa 5 1),qb 62 60 (fa 3 61),qb 63 60 (lo 62),qb 64 60 (.bin .neq (.t 63) (qi 0)),Qp 65 60 64,Qm 66 65,Bm 67 66 4,qb 68 66 (.bin .eql (.t 67) (qi 0)),Qp 69 66 68,Qm 2 69] [2] .ret)) (qR [Qu 71 .eql 43 2,Qm 70 71] [1,43,70] (.cond (.t 70) (qR [Qa 72 13 1,Qo 73 72,qa 74 (.call (.f 78) [.t 73,qi 1]),Qm 75 74,qb 76 75 (fa 14 1),qb 77 75 (lo 76),qb 78 75 (.call (.f 78) [.t 77,qi 0]),Qp 79 75 78,Qm 80 79,qb 81 80 (fa 4 1),qb 82 80 (lo 81),qb 83 80 (.call (.f 71) [.t 82,qi 0,qi 256]),Qp 84 80 83,Qm 2 84] [2] .ret) (qR [Qu 86 .eql 43 3,Qm 85 86] [1,43,85] (.cond (.t 85) (qR [Qa 87 13 1,Qo 88 87,qa 89 (.call (.f 78) [.t 88,qi 0]),Qm 90 89,qb 91 90 (fa 14 1),qb 92 90 (lo 91),qb 93 90 (.call (.f 78) [.t 92,qi 1]),Qp 94 90 93,Qm 95 94,qb 96 95 (fa 4 1),qb 97 95 (lo 96),qb 98 95 (.call (.f 71) [.t 97,qi 0,qi 256]),Qp 99 95 98,Qm 100 99,qb 101 100 (fa 13 1),qb 102 100 (lo 101),qb 103 100 (.len (.t 102)),qb 104 100 (.bin .gtr (.t 103) (qi 0)),Bm 105 100 104,qc 106 105 (fa 4 1),qc 107 105 (lo 106),qc 108 105 (.bin .eql (.t 107) (qi 0)),qb 109 100 (.pick (.t 105) qt (.t 108)),Qp 110 100 109,Qm 2 110] [2] .ret) (qR [Qu 112 .eql 43 4,Qm 111 112] [1,43,111] (.cond (.t 111) (qR [Qa 113 14 1,Qo 114 113,qa 115 (.call (.f 78) [.t 114,qi 0]),Qm 2 115] [2] .ret) (qR [Qu 117 .eql 43 5,Qm 116 117] [1,43,116] (.cond (.t 116) (qR [Qa 118 15 1,Qo 119 118,Q1 120 79 119,Qm 2 120] [2] .ret) (qR [Qu 122 .eql 43 6,Qm 121 122] [1,43,121] (.cond (.t 121) (qR [Qa 123 3 1,Qo 124 123,qa 125 (.call (.f 71) [.t 124,qi 0,qi 3]),Qm 126 125,qb 127 126 (fa 2 1),qb 128 126 (lo 127),qb 129 126 (.call (.f 73) [.t 128]),Qp 130 126 129,Qm 2 130] [2] .ret) (qs (qR [Qu 132 .eql 43 7,Qm 131 132] [1,43,131] (.cond (.t 131) .skip (qR [Qu 133 .eql 43 8,Qm 131 133] [1,43,131] (.cond (.t 131) .skip (qr [Qu 134 .eql 43 9,Qm 131 134] [1,43,131]))))) (.cond (.t 131) (qR [Qa 135 20 1,Qo 136 135,qa 137 (.call (.f 71) [.t 136,qi 1,qi 1048576]),Qm 138 137,qb 139 138 (fa 21 1),qb 140 138 (lo 139),qb 141 138 (.call (.f 71) [.t 140,qi (-1),qi 31]),Qp 142 138 141,Qm 143 142,qb 144 143 (fa 22 1),qb 145 143 (lo 144),qb 146 143 (.call (.f 71) [.t 145,qi 0,qi 1048576]),Qp 147 143 146,Qm 2 147] [2] .ret) (qR [Qu 149 .eql 43 10,Qm 148 149] [1,43,148] (.cond (.t 148) (qR [Qa 150 23 1,Qo 151 150,Q1 152 74 151,Qm 153 152,qb 154 153 (fa 22 1),qb 155 153 (lo 154),qb 156 153 (.call (.f 71) [.t 155,qi 0,qi 1048576]),Qp 157 153 156,Qm 2 157] [2] .ret) (qR [Qu 159 .eql 43 11,Qm 158 159] [1,158] (.cond (.t 158) (qR [Qa 160 20 1,Qo 161 160,qa 162 (.call (.f 71) [.t 161,qi 1,qi 1048576]),Qm 163 162,qb 164 163 (fa 21 1),qb 165 163 (lo 164),qb 166 163 (.call (.f 71) [.t 165,qi 0,qi 31]),Qp 167 163 166,Qm 168 167,qb 169 168 (fa 24 1),qb 170 168 (lo 169),qb 171 168 (.len (.t 170)),qb 172 168 (.bin .eql (.t 171) (qi 1)),Qp 173 168 172,Qm 174 173,qb 175 174 (fa 24 1),qb 176 174 (lo 175),qb 177 174 (.indexA 25 (.t 176) (qi 0)),qb 178 174 (fa 0 177),qb 179 174 (lo 178),qb 180 174 (.call (.f 71) [.t 179,qi 0,qi 6]),Qp 181 174 180,Qm 182 181,qb 183 182 (fa 24 1),qb 184 182 (lo 183),qb 185 182 (.indexA 25 (.t 184) (qi 0)),qb 186 182 (lm 25 185),qb 187 182 (.call (.f 30) [.t 186]),Qp 188 182 187,Qm 2 188] [2] .ret) .skip))))))))))))))))))) (qr [] []))) (qR [Qt 2] [2] .ret))))
def c30:FB 30 [2000001]=some (r30,s30):=by kernel_rfl
def r36:RL:=[(4,none)]
def s36:SCode:=qR [Qf 4] [0,1] (qs Za3 (qs (qR [Qi 5 0] [0,1,5] (qs (.block 0 (.loop (qs (qR [Qm 11 5,Qm 12 0,Qn 13 12,Qv 14 .lss 11 13] [0,1,5,14] (qX 14)) (qs (qs (.block 1 (qs (.draw [Qm 17 0,Qm 18 5,Qx 19 4 17 18,Ql 20 4 19,Qm 21 1,Qm 22 5,Qx 23 4 21 22,Ql 24 4 23,qa 25 (.eqs true [2,1,1,1] (.t 20) (.t 24))] [0,1,5,25]) (.cond (.t 25) Za6 .skip))) (qr [] [0,1,5])) (qr [Qm 15 5,Qu 16 .add 15 1,Qm 5 16] [0,1,5]))))) (qr [] []))) Za10))
def c36:FB 36 []=some (r36,s36):=by kernel_rfl
def r39:RL:=[(2,none)]
def s39:SCode:=qR [Qb 1 25 0,Qz 2] [1] (qs (qR [Ql 8 25 1,Q1 9 60 8,Qr 10 9] [1,10] (.cond (.t 10) (qR [qa 11 (.build Za0 [(4,(1,qi 1)),(5,(1,.c (.str [105,110,118,97,108,105,100])))]),qa 12 (.buildS 88 6 1 Za0 [(0,.t 11)]),Qm 2 12] [2] .ret) .skip)) (qR [Qz 3] [1,3] (qs (qR [Q0 13 90,Qn 14 13,Qi 15 0] [1,3,13,14,15] (qs (.block 0 (.loop (qR [Qv 16 .lss 15 14] [1,3,13,14,15,16] (qs (qX 16) (qs (qs (.block 1 (qR [Qx 17 3 13 15,Ql 18 3 17,qa 5 (.alloc 143 Za5),QS 3 5 18] [1,3,5,13,14,15] (qR [Qa 19 2 5,Qo 20 19,Ql 21 25 1,qa 22 (.call (.t 20) [.t 21])] [1,3,5,13,14,15,22] (.cond (.t 22) (qr [Qm 23 3,Qa 24 0 5,Qo 25 24,Qa 26 1 5,Qo 27 26,qa 28 (.build Za0 [(4,(1,.t 25)),(5,(1,.t 27))]),qa 29 (.buildS 88 6 1 Za0 [(0,.t 28)]),Qw 30 88 6 56 23 29,Qm 3 30] [1,3,13,14,15]) .skip)))) (qr [] [1,3,13,14,15])) (qr [Qu 31 .add 15 1,Qm 15 31] [1,3,13,14,15])))))) (qr [] [1,3]))) (qs (qR [Qa 32 24 1,Qo 33 32,Qn 34 33,Qi 35 0] [3,33,34,35] (qs (.block 2 (.loop (qR [Qv 36 .lss 35 34] [3,33,34,35,36] (qs (.cond (.t 36) .skip (.exit 2)) (qs (qs (.block 3 (qR [Qx 37 25 33 35,Ql 38 25 37,qa 7 (.alloc 34 zItm),QS 25 7 38] [3,7,33,34,35] (qr [Qm 39 3,Ql 40 25 7,Q1 41 39 40,Qw 42 88 6 56 39 41,Qm 3 42] [3,33,34,35]))) (qr [] [3,33,34,35])) (qr [Qu 43 .add 35 1,Qm 35 43] [3,33,34,35])))))) (qr [] [3]))) (qR [Qm 44 3,Qm 2 44] [2] .ret)))))
def c39:FB 39 [2000001]=some (r39,s39):=by kernel_rfl
def r45:RL:=[(2,none)]
def s45:SCode:=qR [Qb 1 7 0,Qf 2] [1] (qs (qR [Qa 4 0 1,Qo 5 4,qa 6 (.call (.f 71) [.t 5,qi 1,qi 1048576]),Qr 7 6,Qm 8 7,qc 9 8 (fa 1 1),qc 10 8 (lo 9),qc 11 8 (.call (.f 97) [.t 10]),qc 12 8 (.not (.t 11)),Qq 13 8 12,Qm 14 13,qc 15 14 (fa 2 1),qc 16 14 (lo 15),qc 17 14 (.call (.f 71) [.t 16,qi 0,qi 1048576]),qc 18 14 (.not (.t 17)),Qq 19 14 18,Qm 20 19,qc 21 20 (fa 3 1),qc 22 20 (lm 3 21),qc 23 20 (.call (.f 98) [.t 22]),qc 24 20 (.not (.t 23)),Qq 25 20 24,Qm 26 25,qc 27 26 (fa 6 1),qc 28 26 (lo 27),qc 29 26 (.len (.t 28)),qc 30 26 (.bin .gtr (.t 29) (qi 32)),Qq 31 26 30] [1,31] (.cond (.t 31) Za1 .skip)) (qs (qR [Qi 3 0] [1,3] (qs (.block 0 (.loop (qs (qR [Qm 32 3,Qa 33 6 1,Qo 34 33,Qn 35 34,Qv 36 .lss 32 35] [1,3,36] (qX 36)) (qs (qs (.block 1 (qR [Qa 39 6 1,Qo 40 39,Qm 41 3,Qx 42 25 40 41,Ql 43 25 42,Q1 44 30 43,Qr 45 44] [1,3,45] (.cond (.t 45) Za1 .skip))) (qr [] [1,3])) (qr [Qm 37 3,Qu 38 .add 37 1,Qm 3 38] [1,3]))))) (qr [] []))) (qR [Qt 2] [2] .ret)))
def c45:FB 45 [2000001]=some (r45,s45):=by kernel_rfl
def r48:RL:=[(4,some (true,6))]
def s48:SCode:=qR [qa 4 (.alloc 88 Za0)] [0,1,4] (qR [Qm 5 0,Qm 6 1,qa 7 (.build Za0 [(4,(1,.t 5)),(5,(1,.t 6))]),QS 6 4 7] [4] .ret)
def c48:FB 48 []=some (r48,s48):=by kernel_rfl
def r51:RL:=[(2,none)]
def s51:SCode:=qR [Qb 1 8 0,Qf 2] [1] (qR [Ql 3 8 1,Q1 4 106 3,Qm 5 4,qb 6 5 (lm 8 1),qb 7 5 (.call (.f 107) [.t 6]),Qp 8 5 7,Qm 2 8] [2] .ret)
def c51:FB 51 [2000001]=some (r51,s51):=by kernel_rfl
def r54:RL:=[(2,none)]
def s54:SCode:=qR [Qf 2] [0] (qR [Qm 3 0,Qu 4 .geq 3 0,Qm 5 4,Bm 6 5 0,qb 7 5 (.bin .leq (.t 6) (qi 6)),Qp 8 5 7,Qm 2 8] [2] .ret)
def c54:FB 54 []=some (r54,s54):=by kernel_rfl
def r60:RL:=[(2,none)]
def s60:SCode:=qR Za8 [1] (qs (.drawT (.step (Qa 8 0 1) (.step (qa 9 (.loadF false 1 (.t 8))) (.both (.step (Q0 7 130) (.both (.step Za12 (.step (Qm 6 10) (.step (Qe 11 0 6) (.step (Qe 12 1 6) (.step Za9 Za13))))) (.step Za9 Za4))) (.step Za9 (.step (Q0 7 130) Za4))))) [1,3,4]) (qs (qR [Qm 13 4,Qr 14 13] [1,3,14] (.cond (.t 14) Za1 .skip)) (qR [Qa 15 0 3,Qo 16 15,Ql 17 25 1,qa 18 (.call (.t 16) [.t 17]),qa 5 (.alloc 34 zItm),QS 25 5 18] [1,3,5] (qR [Qa 19 0 1,Qo 20 19,Qa 21 0 5,QS 1 21 20] [1,3,5] (qs (qR [Qa 22 0 1,Qo 23 22,Q1 24 54 23] [1,3,5,24] (.cond (.t 24) (qs (.drawL [Qa 25 1 1,qa 26 (.loadF false 1 (.t 25)),Qa 27 16 1,qa 28 (.loadF false 1 (.t 27)),Qa 29 17 1,Qs 30 3 29,Qa 31 1 5,QS 1 31 26,Qa 32 16 5,QS 1 32 28,Qa 33 17 5,QS 3 33 30] [1,3,5]) (qR [Qa 34 1 1,Qo 35 34,Q1 36 131 35,Qr 37 36,Qm 38 37,qc 39 38 (fa 16 1),qc 40 38 (lo 39),qc 41 38 (.bin .neq (.t 40) (.c (.str []))),Ym 42 38 41,qb 43 42 (fa 16 1),qb 44 42 (lo 43),qb 45 42 (.call (.f 132) [.t 44]),qb 46 42 (.not (.t 45)),qc 47 38 (.pick (.t 42) (.t 46) qf),Qq 48 38 47,Qm 49 48,qc 50 49 (fa 17 1),qc 51 49 (lm 3 50),qc 52 49 (.call (.f 133) [.t 51]),qc 53 49 (.not (.t 52)),Qq 54 49 53] [1,3,5,54] (.cond (.t 54) Za1 .skip))) .skip)) (qR [Ql 55 25 1,Ql 56 25 5,Q2 57 94 55 56,Qm 58 57,qb 59 58 (fa 1 3),qb 60 58 (lo 59),qb 61 58 (lm 25 1),qb 62 58 (.call (.t 60) [.t 61]),Qp 63 58 62,Qm 2 63] [2] .ret))))))
def c60:FB 60 [2000001]=some (r60,s60):=by kernel_rfl
def r63:RL:=[(2,some (true,8))]
def s63:SCode:=qR [QB 1 27 8 0,QU 2 27] [1,2] (qs (.drawT (.step (Qa 6 5 1) (.step (Qa 9 6 1) (.both (.step (Qo 7 6) (.both (.step (Q1 8 65 7) (.step (Qo 10 9) Za2)) (.step (Qo 10 9) (.step (Q1 8 65 7) Za2)))) (.step (Qo 10 9) (.step (Qo 7 6) (.step (Q1 8 65 7) Za2)))))) [1,2]) (qR [Qz 3] [1,2,3] (qs (qR [Qa 14 7 1,Qo 15 14,Qn 16 15,Qi 17 0] [1,2,3,15,16,17] (qs (.block 0 (.loop (qR [Qv 18 .lss 17 16] [1,2,3,15,16,17,18] (qs (qX 18) (qs (qs (.block 1 (qR [Qx 19 8 15 17,Ql 20 8 19,QU 5 27,QS 8 5 20] [1,2,3,5,15,16,17] (qr [Qm 21 3,Ql 22 8 5,Q1 23 63 22,qa 24 (.buildS 27 8 1 zU [(0,.t 23)]),qa 25 (.raw (.call (.mk (.builtin .append) #[.tmp 21,.tmp 24] #[25,25]))),Qm 3 25] [1,2,3,15,16,17]))) (qr [] [1,2,3,15,16,17])) (qr [Qu 26 .add 17 1,Qm 17 26] [1,2,3,15,16,17])))))) (qr [] [1,2,3]))) (qR [Qm 27 3,Qa 28 7 1,QS 1 28 27] [1,2] (qR [Ql 29 8 1,QS 8 2 29] [2] .ret)))))
def c63:FB 63 [3000025]=some (r63,s63):=by kernel_rfl
def r72:RL:=[(2,some (true,25))]
def s72:SCode:=qR Za7 [1,2] (qR [Qa 4 0 1,Qo 5 4,qa 6 (.build zItm [(0,(1,.t 5))]),qa 3 (.alloc 34 zItm),QS 25 3 6] [1,2,3] (qs (qR [Qa 7 0 1,Qo 8 7,Qu 9 .leq 8 6] [1,2,3,9] (.cond (.t 9) (.drawL [Qa 10 1 1,qa 11 (.loadF false 1 (.t 10)),Qa 12 16 1,qa 13 (.loadF false 1 (.t 12)),Qa 14 17 1,Qs 15 3 14,Qa 16 1 3,QS 1 16 11,Qa 17 16 3,QS 1 17 13,Qa 18 17 3,QS 3 18 15] [1,2,3]) (qr [Qa 19 22 1,Qo 20 19,Qa 21 22 3,QS 1 21 20] [1,2,3]))) (qs (qR [Qa 22 0 1,Qo 23 22] [1,2,3,23] (qs (.block 0 (qR [Qu 25 .eql 23 0,Qm 24 25] [1,2,3,23,24] (.cond (.t 24) (.drawL [Qa 26 3 1,qa 27 (.loadF false 1 (.t 26)),Qa 28 5 1,Qs 29 8 28,Qa 30 3 3,QS 1 30 27,Qa 31 5 3,QS 8 31 29] [2,3]) (qs (qR [Qu 33 .eql 23 2,Qm 32 33] [1,2,3,23,32] (.cond (.t 32) .skip (qr [Qu 34 .eql 23 3,Qm 32 34] [1,2,3,23,32]))) (.cond (.t 32) (.drawL [Qa 35 13 1,qa 36 (.loadF false 1 (.t 35)),Qa 37 14 1,qa 38 (.loadF false 1 (.t 37)),Qa 39 4 1,qa 40 (.loadF false 1 (.t 39)),Qa 41 13 3,QS 1 41 36,Qa 42 14 3,QS 1 42 38,Qa 43 4 3,QS 1 43 40] [2,3]) (qR [Qu 45 .eql 23 4,Qm 44 45] [1,2,3,23,44] (.cond (.t 44) (qr [Qa 46 14 1,Qo 47 46,Qa 48 14 3,QS 1 48 47] [2,3]) (qR [Qu 50 .eql 23 5,Qm 49 50] [1,2,3,23,49] (.cond (.t 49) (qr [Qa 51 15 1,Qo 52 51,Qa 53 15 3,QS 1 53 52] [2,3]) (qR [Qu 55 .eql 23 6,Qm 54 55] [1,2,3,23,54] (.cond (.t 54) (.drawL [Qa 56 2 1,qa 57 (.loadF false 1 (.t 56)),Qa 58 3 1,qa 59 (.loadF false 1 (.t 58)),Qa 60 2 3,QS 1 60 57,Qa 61 3 3,QS 1 61 59] [2,3]) (qs (qR [Qu 63 .eql 23 7,Qm 62 63] [1,2,3,23,62] (.cond (.t 62) .skip (qR [Qu 64 .eql 23 8,Qm 62 64] [1,2,3,23,62] (.cond (.t 62) .skip (qr [Qu 65 .eql 23 9,Qm 62 65] [1,2,3,23,62]))))) (.cond (.t 62) (.drawL [Qa 66 20 1,qa 67 (.loadF false 1 (.t 66)),Qa 68 21 1,qa 69 (.loadF false 1 (.t 68)),Qa 70 20 3,QS 1 70 67,Qa 71 21 3,QS 1 71 69] [2,3]) (qR [Qu 73 .eql 23 10,Qm 72 73] [1,2,3,23,72] (.cond (.t 72) (qr [Qa 74 23 1,Qo 75 74,Qa 76 23 3,QS 1 76 75] [2,3]) (qR [Qu 78 .eql 23 11,Qm 77 78] [1,2,3,77] (.cond (.t 77) (.drawL [Qa 79 20 1,qa 80 (.loadF false 1 (.t 79)),Qa 81 21 1,qa 82 (.loadF false 1 (.t 81)),Qa 83 24 1,qa 84 (.loadF false 1 (.t 83)),Qa 85 20 3,QS 1 85 80,Qa 86 21 3,QS 1 86 82,Qa 87 24 3,QS 1 87 84,Qa 88 22 3,⟨none,none,.store 1 (.t 88) (qi 0)⟩] [2,3]) .skip))))))))))))))))) (qr [] [2,3]))) (qR [Ql 89 25 3,QS 25 2 89] [2] .ret))))
def c72:FB 72 [2000001]=some (r72,s72):=by kernel_rfl
def r75:RL:=[(2,none)]
def s75:SCode:=qR [Qb 1 3 0,Qf 2] [1] (qs (qR [Qa 3 0 1,Qo 4 3] [1,4] (qs (.block 0 (qR [Qu 6 .eql 4 1,Qm 5 6] [1,4,5] (.cond (.t 5) (qR [Qa 7 1 1,Qo 8 7,qa 9 (.call (.f 71) [.t 8,qi 0,qi 1048576]),Qm 10 9,qb 11 10 (fa 2 1),qb 12 10 (lo 11),qb 13 10 (.bin .eql (.t 12) (.c (.str []))),Qp 14 10 13,Qm 2 14] [2] .ret) (qR [Qu 16 .eql 4 3,Qm 15 16] [1,4,15] (.cond (.t 15) (qR [Qa 17 1 1,Qo 18 17,Qu 19 .eql 18 0,Qm 20 19,qb 21 20 (fa 2 1),qb 22 20 (lo 21),qb 23 20 (.call (.f 74) [.t 22]),Qp 24 20 23,Qm 2 24] [2] .ret) (qs (qR [Qu 26 .eql 4 0,Qm 25 26] [1,4,25] (.cond (.t 25) .skip (qr [Qu 27 .eql 4 2,Qm 25 27] [1,25]))) (.cond (.t 25) (qR [Qa 28 1 1,Qo 29 28,Qu 30 .eql 29 0,Qm 31 30,qb 32 31 (fa 2 1),qb 33 31 (lo 32),qb 34 31 (.bin .eql (.t 33) (.c (.str []))),Qp 35 31 34,Qm 2 35] [2] .ret) .skip))))))) (qr [] []))) Za1)
def c75:FB 75 [2000001]=some (r75,s75):=by kernel_rfl
def r78:RL:=[(4,none)]
def s78:SCode:=qR [Qf 4] [0,1] (qR [Qm 5 0,Q1 6 140 5,Qm 7 6,Bm 8 7 0,qb 9 7 (.len (.t 8)),Bm 10 7 1,qb 11 7 (.bin .geq (.t 9) (.t 10)),Qp 12 7 11,Qm 4 12] [4] .ret)
def c78:FB 78 []=some (r78,s78):=by kernel_rfl
def r90:RL:=[(0,none)]
def s90:SCode:=qR [Qz 0] [] (qR [qa 1 (.build Za5 [(0,(1,qi 9)),(1,(1,.c (.str [98,111,111,107]))),(2,(1,.f 151))]),qa 2 (.build Za5 [(0,(1,qi 9)),(1,(1,.c (.str [99,111,110,116,97,105,110,109,101,110,116]))),(2,(1,.f 154))]),qa 3 (.build Za5 [(0,(1,qi 9)),(1,(1,.c (.str [115,101,108,102]))),(2,(1,.f 158))]),qa 4 (.build Za5 [(0,(1,qi 11)),(1,(1,.c (.str [110,111,32,101,102,102,101,99,116]))),(2,(1,.f 160))]),qa 5 (.build Za5 [(0,(1,qi 10)),(1,(1,.c (.str [111,119,110,32,108,97,98,101,108]))),(2,(1,.f 162))]),qa 6 (.buildS 143 3 5 [.i 0,.str [],.sc .nilFunc,.i 0,.str [],.sc .nilFunc,.i 0,.str [],.sc .nilFunc,.i 0,.str [],.sc .nilFunc,.i 0,.str [],.sc .nilFunc] [(0,.t 1),(1,.t 2),(2,.t 3),(3,.t 4),(4,.t 5)]),Qm 0 6] [0] .ret)
def c90:FB 90 []=some (r90,s90):=by kernel_rfl
def r93:RL:=[(3,none)]
def s93:SCode:=qR [Qb 2 25 0,Qf 3] [1,2] (qR [Ql 4 25 2,Ql 5 25 1,Q2 6 94 4 5,Qm 3 6] [3] .ret)
def c93:FB 93 [2000002]=some (r93,s93):=by kernel_rfl
def r99:RL:=[(2,none)]
def s99:SCode:=qR [Qf 2] [0] (qR [Qm 3 0,Qn 4 3,Qu 5 .eql 4 0,Qm 6 5,Ym 7 6 0,qc 8 6 (.len (.t 7)),qc 9 6 (.bin .eql (.t 8) (qi 1)),Ym 10 6 9,Bm 11 10 0,qb 12 10 (.indexA 2 (.t 11) (qi 0)),qb 13 10 (fa 0 12),qb 14 10 (lo 13),qb 15 10 (.bin .eql (.t 14) (qi 0)),qc 16 6 (.pick (.t 10) (.t 15) qf),Ym 17 6 16,Bm 18 17 0,qb 19 17 (.indexA 2 (.t 18) (qi 0)),qb 20 17 (fa 1 19),qb 21 17 (lo 20),qb 22 17 (.bin .eql (.t 21) (.c (.str []))),qc 23 6 (.pick (.t 17) (.t 22) qf),Qq 24 6 23,Qm 2 24] [2] .ret)
def c99:FB 99 []=some (r99,s99):=by kernel_rfl
def r102:RL:=[(2,none)]
def s102:SCode:=qR [Qi 2 0] [0] (qs (qR [Qm 3 0,Q1 4 99 3] [0,4] (.cond (.t 4) (qR [Qi 2 0] [2] .ret) .skip)) (qR [Qm 5 0,Qm 6 0,Qn 7 6,Qu 8 .sub 7 1,Qx 9 2 5 8,Qa 10 0 9,Qo 11 10,Qm 2 11] [2] .ret))
def c102:FB 102 []=some (r102,s102):=by kernel_rfl
def r105:RL:=[(2,none)]
def s105:SCode:=qR [Qf 2] [0] (qs (qR [Qi 3 0] [0,3] (qs (.block 0 (.loop (qs Za11 (qs (qs (.block 1 (qR [Qm 10 0,Qm 11 3,Qx 12 4 10 11,Qa 13 0 12,Qo 14 13,QN 15 14,Qu 16 .gtr 15 100] [0,3,16] (.cond (.t 16) Za1 .skip))) (qr [] [0,3])) Za16)))) (qr [] [0]))) (qR [Qm 17 0,Qn 18 17,Qu 19 .leq 18 300,Qm 2 19] [2] .ret))
def c105:FB 105 []=some (r105,s105):=by kernel_rfl
def r132:RL:=[(2,none)]
def s132:SCode:=qR [Qf 2] [0] (qs (qR [Qm 3 0,QN 4 3,Qu 5 .lss 4 1,Qm 6 5,Ym 7 6 0,qc 8 6 (.lenS (.t 7)),qc 9 6 (.bin .gtr (.t 8) (qi 16)),Qq 10 6 9,Qm 11 10,Ym 12 11 0,qc 13 11 (.index (.t 12) (qi 0)),qc 14 11 (.bin .lss (.t 13) (.c (.int .u8 97))),Qq 15 11 14,Qm 16 15,Ym 17 16 0,qc 18 16 (.index (.t 17) (qi 0)),qc 19 16 (.bin .gtr (.t 18) (.c (.int .u8 122))),Qq 20 16 19] [0,20] (.cond (.t 20) Za1 .skip)) (qR [Qm 21 0,qa 22 (.call (.f 252) [.t 21,.c (.str [97,98,99,100,101,102,103,104,105,106,107,108,109,110,111,112,113,114,115,116,117,118,119,120,121,122,48,49,50,51,52,53,54,55,56,57,45])]),qa 23 (.bin .eql (.t 22) (.c (.str []))),Qm 2 23] [2] .ret))
def c132:FB 132 []=some (r132,s132):=by kernel_rfl
def r138:RL:=[(2,none)]
def s138:SCode:=qR [Qb 1 8 0,Qz 2] [1] (qs (qR [Ql 3 8 1,Q1 4 137 3,Qr 5 4] [1,5] (.cond (.t 5) (qR [qa 6 (.buildS 9 1 0 [] []),Qm 2 6] [2] .ret) .skip)) (qR [Ql 7 8 1,qa 8 (.call (.f 259) [.t 7,qi 0]),Qm 2 8] [2] .ret))
def c138:FB 138 [2000001]=some (r138,s138):=by kernel_rfl
def r141:RL:=[(2,none)]
def s141:SCode:=qR [Qi 2 0] [0] (qR [Qi 3 0] [0,3] (qs (qs (.block 0 (.loop (qs (qR [Qm 4 3,Qm 5 0,QN 6 5,Qv 7 .lss 4 6,Qm 8 7,Bm 9 8 0,Bm 10 8 3,qb 11 8 (.index (.t 9) (.t 10)),qb 12 8 (.bin .geq (.t 11) (.c (.int .u8 48))),Qp 13 8 12,Qm 14 13,Bm 15 14 0,Bm 16 14 3,qb 17 14 (.index (.t 15) (.t 16)),qb 18 14 (.bin .leq (.t 17) (.c (.int .u8 57))),Qp 19 14 18] [0,3,19] (qX 19)) (qs (.block 1 (qr [Qm 20 3,Qu 21 .add 20 1,Qm 3 21] [0,3])) (qr [] [0,3]))))) (qr [] [3])) (qR [Qm 22 3,Qm 2 22] [2] .ret)))
def c141:FB 141 []=some (r141,s141):=by kernel_rfl
def r153:RL:=[(2,none)]
def s153:SCode:=qR Za8 [1] (qR [Qa 3 3 1,Qo 4 3,Qu 5 .eql 4 2,Qm 6 5,qc 7 6 (fa 3 1),qc 8 6 (lo 7),qc 9 6 (.bin .eql (.t 8) (qi 3)),Qq 10 6 9,Qm 2 10] [2] .ret)
def c153:FB 153 [2000001]=some (r153,s153):=by kernel_rfl
def r156:RL:=[(4,none)]
def s156:SCode:=qR [Qf 4] [0,1] (qR [Qm 5 0,Qu 6 .geq 5 0,Qm 7 6,Bm 8 7 0,qb 9 7 (.bin .lss (.t 8) (qi 8)),Qp 10 7 9,Qm 11 10,Bm 12 11 0,qb 13 11 (.indexP 8 1 (.g 2) (.t 12)),qb 14 11 (lo 13),Bm 15 11 1,qb 16 11 (.call (.f 265) [.t 14,.t 15]),Qp 17 11 16,Qm 4 17] [4] .ret)
def c156:FB 156 []=some (r156,s156):=by kernel_rfl
def r159:RL:=[(4,none)]
def s159:SCode:=qR [Qf 4] [0,1] (qs Za3 (qs (qR [Qm 11 0,Qn 12 11,Qi 13 0] [0,1,12,13] (qs (.block 0 (.loop (qR [Qv 14 .lss 13 12] [0,1,12,13,14] (qs (qX 14) (qs (qs (.block 1 (qR [Qm 15 13,Qm 5 15] [0,1,5,12,13] (qs (.draw [Qm 16 0,Qm 17 5,Qx 18 2 16 17,Ql 19 2 18,Qm 20 1,Qm 21 5,Qx 22 2 20 21,Ql 23 2 22,qa 24 (.eqs true [1,2] (.t 19) (.t 23))] [0,1,12,13,24]) (.cond (.t 24) Za6 .skip)))) (qr [] [0,1,12,13])) Za14))))) (qr [] []))) Za10))
def c159:FB 159 []=some (r159,s159):=by kernel_rfl
def r162:RL:=[(2,none)]
def s162:SCode:=qR Za8 [1] (qs (.drawL [Qa 3 0 1,qa 4 (.loadF false 1 (.t 3)),Qu 5 .eql 4 5,Qm 6 5,qb 7 6 (fa 1 1),qb 8 6 (.loadF false 1 (.t 7)),qb 11 6 (fa 15 1),qb 12 6 (.loadF false 1 (.t 11)),qb 9 6 (.call (.f 157) [.t 8]),qb 10 6 (.field false 1 1 (.t 9)),qb 13 6 (.bin .eql (.t 10) (.t 12)),Qp 14 6 13,Qm 2 14] [2]) .ret)
def c162:FB 162 [2000001]=some (r162,s162):=by kernel_rfl
def r165:RL:=[(2,none)]
def s165:SCode:=qR [Qf 2] [0] (qR [Qm 3 0,Qu 4 .geq 3 0,Qm 5 4,Bm 6 5 0,qb 7 5 (.bin .leq (.t 6) (qi 1048576)),Qp 8 5 7,Qm 2 8] [2] .ret)
def c165:FB 165 []=some (r165,s165):=by kernel_rfl
def r168:RL:=[(4,none)]
def s168:SCode:=qR [Qf 4] [0,1] (qs Za3 (qs (qR [Qm 11 0,Qn 12 11,Qi 13 0] [0,1,12,13] (qs (.block 0 (.loop (qR [Qv 14 .lss 13 12] [0,1,12,13,14] (qs (qX 14) (qs (qs (.block 1 (qR [Qm 15 13,Qm 5 15] [0,1,5,12,13] (qs (.draw [Qm 16 0,Qm 17 5,Qx 18 1 16 17,Qo 19 18,Qm 20 1,Qm 21 5,Qx 22 1 20 21,Qo 23 22,Qv 24 .neq 19 23] [0,1,12,13,24]) (.cond (.t 24) Za6 .skip)))) (qr [] [0,1,12,13])) Za14))))) (qr [] []))) Za10))
def c168:FB 168 []=some (r168,s168):=by kernel_rfl
def r171:RL:=[(2,none)]
def s171:SCode:=qR [Qf 2] [0] (qR [Qm 3 0,Qu 4 .eql 3 7,Qm 5 4,Ym 6 5 0,qc 7 5 (.bin .eql (.t 6) (qi 8)),Qq 8 5 7,Qm 9 8,Ym 10 9 0,qc 11 9 (.bin .eql (.t 10) (qi 9)),Qq 12 9 11,Qm 13 12,Ym 14 13 0,qc 15 13 (.bin .eql (.t 14) (qi 11)),Qq 16 13 15,Qm 2 16] [2] .ret)
def c171:FB 171 []=some (r171,s171):=by kernel_rfl
def r174:RL:=[(2,none)]
def s174:SCode:=qR [Qb 1 8 0,Qi 2 0] [1] (qR [Qi 3 0] [1,3] (qs (qR [Qi 4 0] [1,3,4] (qs (.block 0 (.loop (qs (qR [Qm 5 4,Qa 6 7 1,Qo 7 6,Qn 8 7,Qv 9 .lss 5 8] [1,3,4,9] (qX 9)) (qs (qs (.block 1 (qr [Qm 12 3,Qa 13 7 1,Qo 14 13,Qm 15 4,Qx 16 8 14 15,Ql 17 8 16,Q1 18 174 17,qa 19 (.bin .add (qi 1) (.t 18)),qa 20 (.raw (.call (.mk (.builtin .max) #[.tmp 12,.tmp 19] #[3,3]))),Qm 3 20] [1,3,4])) (qr [] [1,3,4])) (qr [Qm 10 4,Qu 11 .add 10 1,Qm 4 11] [1,3,4]))))) (qr [] [3]))) (qR [Qm 21 3,Qm 2 21] [2] .ret)))
def c174:FB 174 [2000001]=some (r174,s174):=by kernel_rfl
def r198:RL:=[(2,none)]
def s198:SCode:=qR [Qf 2] [0] (qR [Qm 7 0,Q1 8 291 7,Qm 6 8,Qe 9 0 6,Qe 10 1 6,Qm 3 9,Qm 4 10] [3,4] (qR [qa 5 (.mov (.f 292))] [3,4,5] (qR [Qm 11 3,QN 12 11,Qu 13 .geq 12 1,Qm 14 13,Bm 15 14 3,qb 16 14 (.lenS (.t 15)),qb 17 14 (.bin .leq (.t 16) (qi 4)),Qp 18 14 17,Qm 19 18,Bm 20 19 3,qb 21 19 (.index (.t 20) (qi 0)),qb 22 19 (.bin .neq (.t 21) (.c (.int .u8 48))),Qp 23 19 22,Qm 24 23,Bm 25 24 4,qb 26 24 (.lenS (.t 25)),qb 27 24 (.bin .leq (.t 26) (qi 3)),Qp 28 24 27,Qm 29 28,Bm 30 29 4,Bm 31 29 5,qb 32 29 (.call (.f 293) [.t 30,.t 31]),qb 33 29 (.not (.t 32)),Qp 34 29 33,Qm 2 34] [2] .ret)))
def c198:FB 198 []=some (r198,s198):=by kernel_rfl
def r210:RL:=[(2,none)]
def s210:SCode:=qR [Qb 1 8 0,Qi 2 0] [1] (qR [qa 3 (.alloc 3 [.i 0]),⟨none,none,.store 1 (.t 3) (qi 0)⟩] [1,3] (qR [Ql 4 8 1,qa 5 (.mkfun (.func 307) [] [.t 3]),Q2 6 306 4 5] [3] (qR [Qo 7 3,Qm 2 7] [2] .ret)))
def c210:FB 210 [2000001]=some (r210,s210):=by kernel_rfl
def r228:RL:=[(2,none)]
def s228:SCode:=qR Za8 [1] (qR [Qa 3 3 1,Qo 4 3,Q1 5 229 4,Qm 6 5,qb 7 6 (fa 5 1),qb 8 6 (lm 8 7),qb 9 6 (.call (.f 230) [.t 8]),Qp 10 6 9,Qm 2 10] [2] .ret)
def c228:FB 228 [2000001]=some (r228,s228):=by kernel_rfl
def r231:RL:=[(2,some (true,25))]
def s231:SCode:=qR Za7 [2] (qR [qa 3 (.build zItm []),QS 25 2 3] [2] .ret)
def c231:FB 231 [2000001]=some (r231,s231):=by kernel_rfl
def r234:RL:=[(2,none)]
def s234:SCode:=qR Za8 [1] (qR [Qa 3 13 1,Qo 4 3,qa 5 (.call (.f 235) [.t 4,qi 1]),Qm 6 5,qb 7 6 (fa 14 1),qb 8 6 (lo 7),qb 9 6 (.call (.f 235) [.t 8,qi 0]),Qp 10 6 9,Qm 11 10,qb 12 11 (lm 25 1),qb 13 11 (.call (.f 236) [.t 12]),Qp 14 11 13,Qm 2 14] [2] .ret)
def c234:FB 234 [2000001]=some (r234,s234):=by kernel_rfl
def r237:RL:=[(2,some (true,25))]
def s237:SCode:=qR Za7 [1,2] (qR [Qa 3 13 1,Qo 4 3,Qa 5 14 1,Qo 6 5,Qa 7 4 1,Qo 8 7,qa 9 (.build zItm [(13,(1,.t 4)),(14,(1,.t 6)),(4,(1,.t 8))]),QS 25 2 9] [2] .ret)
def c237:FB 237 [2000001]=some (r237,s237):=by kernel_rfl
def r240:RL:=[(2,none)]
def s240:SCode:=qR Za8 [1] (qR [Qa 3 14 1,Qo 4 3,qa 5 (.call (.f 235) [.t 4,qi 0]),Qm 2 5] [2] .ret)
def c240:FB 240 [2000001]=some (r240,s240):=by kernel_rfl
def r243:RL:=[(2,some (true,25))]
def s243:SCode:=qR Za7 [1,2] (qR [Qa 3 2 1,Qo 4 3,Qa 5 3 1,Qo 6 5,qa 7 (.build zItm [(2,(1,.t 4)),(3,(1,.t 6))]),QS 25 2 7] [2] .ret)
def c243:FB 243 [2000001]=some (r243,s243):=by kernel_rfl
def r246:RL:=[(2,none)]
def s246:SCode:=qR Za8 [1] (qR [Qa 3 23 1,Qo 4 3,Q1 5 132 4,Qm 6 5,qb 7 6 (fa 22 1),qb 8 6 (lo 7),qb 9 6 (.call (.f 247) [.t 8,qi 0,qi 1048576]),Qp 10 6 9,Qm 2 10] [2] .ret)
def c246:FB 246 [2000001]=some (r246,s246):=by kernel_rfl
def r249:RL:=[(2,none)]
def s249:SCode:=qR Za8 [1] (qR [Ql 3 25 1,qa 4 (.call (.f 250) [.t 3,qi 0]),Qm 5 4,qb 6 5 (fa 24 1),qb 7 5 (lo 6),qb 8 5 (.len (.t 7)),qb 9 5 (.bin .eql (.t 8) (qi 1)),Qp 10 5 9,Qm 11 10,qb 12 11 (fa 24 1),qb 13 11 (lo 12),qb 14 11 (.indexA 25 (.t 13) (qi 0)),qb 15 11 (fa 0 14),qb 16 11 (lo 15),qb 17 11 (.call (.f 54) [.t 16]),Qp 18 11 17,Qm 19 18,qb 20 19 (fa 24 1),qb 21 19 (lo 20),qb 22 19 (.indexA 25 (.t 21) (qi 0)),qb 23 19 (lm 25 22),qb 24 19 (.call (.f 60) [.t 23]),Qp 25 19 24,Qm 2 25] [2] .ret)
def c249:FB 249 [2000001]=some (r249,s249):=by kernel_rfl
def r258:RL:=[(4,none)]
def s258:SCode:=qR [Qb 2 8 0,Qf 4] [1,2] (qs (qR [Qm 8 1,Qu 9 .gtr 8 8,Qm 10 9,Ym 11 10 1,qc 12 10 (.bin .gtr (.t 11) (qi 0)),Ym 13 10 12,qb 14 13 (fa 3 2),qb 15 13 (lo 14),qb 16 13 (.bin .eql (.t 15) (qi 0)),qc 17 10 (.pick (.t 13) (.t 16) qf),Qq 18 10 17,Qm 19 18,qc 20 19 (lm 8 2),qc 21 19 (.call (.f 326) [.t 20]),qc 22 19 (.not (.t 21)),Qq 23 19 22,Qm 24 23,qc 25 24 (fa 7 2),qc 26 24 (lo 25),qc 27 24 (.len (.t 26)),qc 28 24 (.bin .gtr (.t 27) (qi 64)),Qq 29 24 28] [1,2,29] (.cond (.t 29) Za6 .skip)) (qs (qR [Qi 5 0] [1,2,5] (qs (.block 0 (.loop (qs (qR [Qm 30 5,Qa 31 7 2,Qo 32 31,Qn 33 32,Qv 34 .lss 30 33] [1,2,5,34] (qX 34)) (qs (qs (.block 1 (qR [Qa 37 7 2,Qo 38 37,Qm 39 5,Qx 40 8 38 39,Ql 41 8 40,QU 6 27,QS 8 6 41] [1,2,5,6] (qs (qR [Qa 42 3 2,Qo 43 42,Qa 44 3 6,Qo 45 44,Q2 46 143 43 45,Qr 47 46,Qm 48 47,qc 49 48 (lm 8 6),Ym 50 48 1,qc 51 48 (.bin .add (.t 50) (qi 1)),qc 52 48 (.call (.f 258) [.t 49,.t 51]),qc 53 48 (.not (.t 52)),Qq 54 48 53] [1,2,5,6,54] (.cond (.t 54) Za6 .skip)) (qR [Qi 7 0] [1,2,5,6,7] (qs (.block 2 (.loop (qs (qR [Qm 55 7,Qm 56 5,Qv 57 .lss 55 56] [1,2,5,6,7,57] (.cond (.t 57) .skip (.exit 2))) (qs (qs (.block 3 (qs (.draw [Qa 60 7 2,Qo 61 60,Qm 62 7,Qx 63 8 61 62,Qa 64 3 63,Qo 65 64,Qa 66 3 6,Qo 67 66,Qv 68 .eql 65 67,Qm 69 68,qb 70 69 (fa 7 2),qb 71 69 (lo 70),Bm 72 69 7,qb 73 69 (.indexA 8 (.t 71) (.t 72)),qb 74 69 (fa 4 73),qb 75 69 (lo 74),qb 76 69 (fa 4 6),qb 77 69 (lo 76),qb 78 69 (.bin .eql (.t 75) (.t 77)),Qp 79 69 78] [1,2,5,6,7,79]) (.cond (.t 79) Za6 .skip))) (qr [] [1,2,5,6,7])) (qr [Qm 58 7,Qu 59 .add 58 1,Qm 7 59] [1,2,5,6,7]))))) (qr [] [1,2,5])))))) (qr [] [1,2,5])) (qr [Qm 35 5,Qu 36 .add 35 1,Qm 5 36] [1,2,5]))))) (qr [] []))) Za10))
def c258:FB 258 [2000002]=some (r258,s258):=by kernel_rfl
def r261:RL:=[(2,none)]
def s261:SCode:=qR [Qf 2] [0] (qs (qR [Qm 4 0,QN 5 4,Qu 6 .lss 5 1,Qm 7 6,Ym 8 7 0,qc 9 7 (.lenS (.t 8)),qc 10 7 (.bin .gtr (.t 9) (qi 24)),Qq 11 7 10] [0,11] (.cond (.t 11) Za1 .skip)) (qs (qR [Qi 3 0] [0,3] (qs (.block 0 (.loop (qs (qR [Qm 12 3,Qm 13 0,QN 14 13,Qv 15 .lss 12 14] [0,3,15] (qX 15)) (qs (qs (.block 1 (qR [Qm 18 0,Qm 19 3,QI 20 18 19,qa 21 (.bin .lss (.t 20) (.c (.int .u8 33))),Qm 22 21,Ym 23 22 0,Ym 24 22 3,qc 25 22 (.index (.t 23) (.t 24)),qc 26 22 (.bin .gtr (.t 25) (.c (.int .u8 126))),Qq 27 22 26] [0,3,27] (.cond (.t 27) Za1 .skip))) (qr [] [0,3])) (qr [Qm 16 3,Qu 17 .add 16 1,Qm 3 17] [0,3]))))) (qr [] []))) (qR [Qt 2] [2] .ret)))
def c261:FB 261 []=some (r261,s261):=by kernel_rfl
def r267:RL:=[(2,none)]
def s267:SCode:=qR [Qf 2] [0] (qR [qa 3 (.alloc 242 [.sc .nilFunc]),⟨none,none,.store 1 (.t 3) (.f 334)⟩] [0,3] (qR [Qm 4 0,QN 5 4,Qu 6 .geq 5 1,Qm 7 6,Bm 8 7 0,qb 9 7 (.lenS (.t 8)),qb 10 7 (.bin .leq (.t 9) (qi 16)),Qp 11 7 10,Qm 12 11,Bm 13 12 0,qb 14 12 (.index (.t 13) (qi 0)),qb 15 12 (.bin .geq (.t 14) (.c (.int .u8 97))),Qp 16 12 15,Qm 17 16,Bm 18 17 0,qb 19 17 (.index (.t 18) (qi 0)),qb 20 17 (.bin .leq (.t 19) (.c (.int .u8 122))),Qp 21 17 20,Qm 22 21,Bm 23 22 0,qb 24 22 (.mkfun (.func 336) [] [.t 3]),qb 25 22 (.call (.f 335) [.t 23,.t 24]),qb 26 22 (.bin .lss (.t 25) (qi 0)),Qp 27 22 26,Qm 2 27] [2] .ret))
def c267:FB 267 []=some (r267,s267):=by kernel_rfl
def r270:RL:=[(2,none)]
def s270:SCode:=qR [Qz 2] [0] (qR [qa 6 (.buildS 9 1 0 [] []),Qm 3 6] [0,3] (qs (qR [Qm 7 0,qa 8 (.bin .eql (.t 7) (.c (.str [])))] [0,3,8] (.cond (.t 8) (qR [Qm 9 3,Qm 2 9] [2] .ret) .skip)) (qR [Qi 4 0] [0,3,4] (qs (qR [Qi 5 0] [0,3,4,5] (qs (.block 0 (.loop (qs (qR [Qm 10 5,Qm 11 0,QN 12 11,Qv 13 .leq 10 12] [0,3,4,5,13] (qX 13)) (qs (qs (.block 1 (qR [Qm 16 5,Qm 17 0,QN 18 17,Qv 19 .eql 16 18,Qm 20 19,Ym 21 20 0,Ym 22 20 5,qc 23 20 (.index (.t 21) (.t 22)),qc 24 20 (.bin .eql (.t 23) (.c (.int .u8 32))),Qq 25 20 24] [0,3,4,5,25] (.cond (.t 25) (qR [Qm 26 3,Qm 27 0,Qm 28 4,Qm 29 5,qa 30 (.sliceS (.t 27) (some (.t 28)) (some (.t 29))),qa 31 (.buildS 9 1 1 [.str []] [(0,.t 30)]),Qw 32 9 1 16 26 31,Qm 3 32] [0,3,5] (qr [Qm 33 5,Qu 34 .add 33 1,Qm 4 34] [0,3,4,5])) .skip))) (qr [] [0,3,4,5])) (qr [Qm 14 5,Qu 15 .add 14 1,Qm 5 15] [0,3,4,5]))))) (qr [] [3]))) (qR [Qm 35 3,Qm 2 35] [2] .ret)))))
def c270:FB 270 []=some (r270,s270):=by kernel_rfl
def r291:RL:=[(2,none),(3,none)]
def s291:SCode:=qR [qa 2 (.mov (.c (.str []))),qa 3 (.mov (.c (.str [])))] [0] (qR [Qm 5 0,qa 6 (.call (.f 335) [.t 5,.f 344]),Qm 4 6] [0,4] (qs (qR [Qm 7 4,Qu 8 .lss 7 0] [0,4,8] (.cond (.t 8) (qR [Qm 9 0,Qm 2 9,qa 3 (.mov (.c (.str [])))] [2,3] .ret) .skip)) (qs (.drawL [Qm 10 0,Qm 11 4,qa 12 (.sliceS (.t 10) none (some (.t 11))),Qm 13 0,Qm 14 4,qa 15 (.sliceS (.t 13) (some (.t 14)) none),Qm 2 12,Qm 3 15] [2,3]) .ret)))
def c291:FB 291 []=some (r291,s291):=by kernel_rfl
def r297:RL:=[(4,none)]
def s297:SCode:=qR [Qf 4] [0,1] (qR [Qm 5 0,Qm 6 1,Q2 7 346 5 6,Qu 8 .geq 7 0,Qm 4 8] [4] .ret)
def c297:FB 297 []=some (r297,s297):=by kernel_rfl
def r306:RL:=[(4,none)]
def s306:SCode:=qR [Qb 2 8 0,Qf 4] [1,2] (qs (qR [Qm 7 1,Ql 8 8 2,qa 9 (.call (.t 7) [.t 8]),Qr 10 9] [1,2,10] (.cond (.t 10) Za6 .skip)) (qs (qR [Qa 11 7 2,Qo 12 11,Qn 13 12,Qi 14 0] [1,12,13,14] (qs (.block 0 (.loop (qR [Qv 15 .lss 14 13] [1,12,13,14,15] (qs (qX 15) (qs (qs (.block 1 (qR [Qx 16 8 12 14,Ql 17 8 16,QU 6 27,QS 8 6 17] [1,6,12,13,14] (qR [Ql 18 8 6,Qm 19 1,Q2 20 306 18 19,Qr 21 20] [1,12,13,14,21] (.cond (.t 21) Za6 .skip)))) (qr [] [1,12,13,14])) (qr [Qu 22 .add 14 1,Qm 14 22] [1,12,13,14])))))) (qr [] []))) Za10))
def c306:FB 306 [2000002]=some (r306,s306):=by kernel_rfl
def r318:RL:=[(2,none)]
def s318:SCode:=qR [Qb 1 8 0,Qf 2] [1] (qR [Ql 3 8 1,Q1 4 275 3,Qm 5 4,qb 6 5 (lm 8 1),qb 7 5 (.call (.f 306) [.t 6,.f 354]),Qp 8 5 7,Qm 2 8] [2] .ret)
def c318:FB 318 [2000001]=some (r318,s318):=by kernel_rfl
def r327:RL:=[(4,none)]
def s327:SCode:=qR [Qb 2 8 0,qa 4 (.mov (.c (.str [])))] [1,2] (qs (qR [Qm 7 1,Qu 8 .lss 7 0,Qm 9 8,Ym 10 9 1,qc 11 9 (.bin .gtr (.t 10) (qi 8)),Qq 12 9 11,Qm 13 12,qc 14 13 (lm 8 2),qc 15 13 (.call (.f 326) [.t 14]),qc 16 13 (.not (.t 15)),Qq 17 13 16] [1,2,17] (.cond (.t 17) Za15 .skip)) (qR [qa 5 (.mov (.c (.str [])))] [1,2,5] (qs (qR [Qi 6 0] [1,2,5,6] (qs (.block 0 (.loop (qs (qR [Qm 18 6,Qm 19 1,Qv 20 .lss 18 19] [1,2,5,6,20] (qX 20)) (qs (qs (.block 1 (qr [Qm 23 5,qa 24 (.bin .add (.t 23) (.c (.str [32,32]))),Qm 5 24] [1,2,5,6])) (qr [] [1,2,5,6])) (qr [Qm 21 6,Qu 22 .add 21 1,Qm 6 22] [1,2,5,6]))))) (qr [] [2,5]))) (qs (.drawL [Qm 25 5,Qa 27 3 2,qa 28 (.loadF false 1 (.t 27)),Q0 26 361,Qx 29 1 26 28,Qo 30 29,Qv 31 .add 25 30,Qm 5 31] [2,5]) (qs (qR [Qa 32 3 2,Qo 33 32,Qu 34 .neq 33 0] [2,5,34] (.cond (.t 34) (qr [Qm 35 5,qa 36 (.bin .add (.t 35) (.c (.str [32]))),Qa 37 4 2,Qo 38 37,Qv 39 .add 36 38,Qm 5 39] [2,5]) .skip)) (qs (qR [Qa 40 5 2,Qo 41 40,Qn 42 41,Qu 43 .gtr 42 0] [2,5,43] (.cond (.t 43) (qr [Qm 44 5,qa 45 (.bin .add (.t 44) (.c (.str [58]))),Qa 46 5 2,Qo 47 46,Q1 48 362 47,Qv 49 .add 45 48,Qm 5 49] [2,5]) .skip)) (qs (qR [Qa 50 6 2,Qo 51 50,Qn 52 51,Qu 53 .gtr 52 0] [2,5,53] (.cond (.t 53) (qr [Qm 54 5,qa 55 (.bin .add (.t 54) (.c (.str [32,124]))),Qa 56 6 2,Qo 57 56,Q1 58 362 57,Qv 59 .add 55 58,Qm 5 59] [5]) .skip)) (qR [Qm 60 5,Qm 4 60] [4] .ret))))))))
def c327:FB 327 [2000002]=some (r327,s327):=by kernel_rfl
def r333:RL:=[(2,none)]
def s333:SCode:=qR [Qf 2] [0] (qR [qa 3 (.mov (.f 365))] [0,3] (qR [Qm 4 0,qa 5 (.bin .neq (.t 4) (.c (.str []))),Qm 6 5,Bm 7 6 0,qb 8 6 (.lenS (.t 7)),qb 9 6 (.bin .leq (.t 8) (qi 24)),Qp 10 6 9,Qm 11 10,Bm 12 11 0,qb 13 11 (.raw (.convert 9 155 (.tmp 12))),Bm 14 11 3,qb 15 11 (.call (.f 366) [.t 13,.t 14]),qb 16 11 (.not (.t 15)),Qp 17 11 16,Qm 2 17] [2] .ret))
def c333:FB 333 []=some (r333,s333):=by kernel_rfl
def r336:RL:=[(3,none)]
def s336:SCode:=qR [Qf 3] [0,1] (qR [Qo 4 1,Qm 5 0,qa 6 (.call (.t 4) [.t 5]),Qr 7 6,Qm 3 7] [3] .ret)
def c336:FB 336 []=some (r336,s336):=by kernel_rfl
def r342:RL:=[(2,none)]
def s342:SCode:=qR [Qb 1 8 0,Qf 2] [1] (qs (qR [Qa 7 3 1,Qo 8 7,Qu 9 .eql 8 0] [1,9] (.cond (.t 9) (qR [Qa 10 4 1,Qo 11 10,qa 12 (.bin .neq (.t 11) (.c (.str []))),Qm 13 12,qc 14 13 (fa 5 1),qc 15 13 (lo 14),qc 16 13 (.len (.t 15)),qc 17 13 (fa 6 1),qc 18 13 (lo 17),qc 19 13 (.len (.t 18)),qc 20 13 (.bin .add (.t 16) (.t 19)),qc 21 13 (.bin .gtr (.t 20) (qi 0)),Qq 22 13 21] [1,22] (.cond (.t 22) Za1 .skip)) (qR [Qa 23 3 1,Qo 24 23,Q1 25 374 24,qa 26 (.bin .eql (.t 25) (.c (.str []))),Qm 27 26,qc 28 27 (fa 4 1),qc 29 27 (lo 28),qc 30 27 (.call (.f 198) [.t 29]),qc 31 27 (.not (.t 30)),Qq 32 27 31,Qm 33 32,qc 34 33 (fa 5 1),qc 35 33 (lo 34),qc 36 33 (.call (.f 375) [.t 35]),qc 37 33 (.not (.t 36)),Qq 38 33 37,Qm 39 38,qc 40 39 (fa 6 1),qc 41 39 (lo 40),qc 42 39 (.call (.f 375) [.t 41]),qc 43 39 (.not (.t 42)),Qq 44 39 43] [1,44] (.cond (.t 44) Za1 .skip)))) (qR [qa 45 (.raw (.makeMap 306 none)),Qm 3 45] [1,3] (qs (qR [Qa 46 7 1,Qo 47 46,Qn 48 47,Qi 49 0] [1,3,47,48,49] (qs (.block 0 (.loop (qR [Qv 50 .lss 49 48] [1,3,47,48,49,50] (qs (qX 50) (qs (qs (.block 1 (qR [Qx 51 8 47 49,Ql 52 8 51,QU 5 27,QS 8 5 52] [1,3,5,47,48,49] (qR [Qa 53 3 5,Qo 54 53,Qa 55 4 5,Qo 56 55,qa 57 (.build [.i 0,.str []] [(0,(1,.t 54)),(1,(1,.t 56))]),qa 6 (.alloc 308 [.i 0,.str []]),QS 2 6 57] [1,3,5,6,47,48,49] (qs (qR [Qa 58 3 1,Qo 59 58,Qa 60 3 5,Qo 61 60,Q2 62 156 59 61,Qr 63 62,Qm 64 63,Ym 65 64 3,qc 66 64 (lm 2 6),qc 67 64 (.raw (.lookup 306 (.tmp 65) (.tmp 66) false)),Qq 68 64 67] [1,3,6,47,48,49,68] (.cond (.t 68) Za1 .skip)) (qr [Qm 69 3,Ql 70 2 6,⟨none,none,.raw (.mapUpdate 306 (.tmp 69) (.tmp 70) (.const (.bool true)))⟩] [1,3,47,48,49]))))) (qr [] [1,3,47,48,49])) (qr [Qu 71 .add 49 1,Qm 49 71] [1,3,47,48,49])))))) (qr [] [1]))) (qR [Qa 72 7 1,Qo 73 72,Qn 74 73,Qu 75 .leq 74 64,Qm 2 75] [2] .ret))))
def c342:FB 342 [2000001]=some (r342,s342):=by kernel_rfl
def r345:RL:=[(2,none)]
def s345:SCode:=qR [Qf 2] [0] (qR [Qm 3 0,Q1 4 333 3,Qr 5 4,Qm 2 5] [2] .ret)
def c345:FB 345 []=some (r345,s345):=by kernel_rfl
def r354:RL:=[(2,none)]
def s354:SCode:=qR [Qb 1 8 0,Qf 2] [1] (qR [qa 3 (.mov (.f 355))] [1,3] (qR [Qa 4 0 1,Ql 5 3 4,qa 6 (.build [.i 0,.i 0,.i 0] []),qa 7 (.eqs false [1,1,1] (.t 5) (.t 6)),Qm 8 7,qb 9 8 (fa 5 1),qb 10 8 (lo 9),Bm 11 8 3,qb 12 8 (.call (.f 297) [.t 10,.t 11]),qb 13 8 (.not (.t 12)),Qp 14 8 13,Qm 15 14,qb 16 15 (fa 6 1),qb 17 15 (lo 16),Bm 18 15 3,qb 19 15 (.call (.f 297) [.t 17,.t 18]),qb 20 15 (.not (.t 19)),Qp 21 15 20,Qm 2 21] [2] .ret))
def c354:FB 354 [2000001]=some (r354,s354):=by kernel_rfl
def r360:RL:=[(2,none)]
def s360:SCode:=qR [Qf 2] [0] (qs (qR [Qi 3 0] [0,3] (qs (.block 0 (.loop (qs Za11 (qs (qs (.block 1 (qR [Qm 10 0,Qm 11 3,Qx 12 4 10 11,Qa 13 0 12,Qo 14 13,Q1 15 392 14,Qr 16 15] [0,3,16] (.cond (.t 16) Za1 .skip))) (qr [] [0,3])) Za16)))) (qr [] [0]))) (qR [Qm 17 0,Qn 18 17,Qu 19 .leq 18 256,Qm 2 19] [2] .ret))
def c360:FB 360 []=some (r360,s360):=by kernel_rfl
def r366:RL:=[(4,none)]
def s366:SCode:=qR [Qf 4] [0,1] (qR [Qm 5 0,Qm 6 1,Q2 7 396 5 6,Qu 8 .geq 7 0,Qm 4 8] [4] .ret)
def c366:FB 366 []=some (r366,s366):=by kernel_rfl
def r375:RL:=[(2,none)]
def s375:SCode:=qR [Qf 2] [0] (qR [Qz 3] [0,3] (qs (qR [Qm 6 0,Qn 7 6,Qi 8 0] [0,3,6,7,8] (qs (.block 0 (.loop (qR [Qv 9 .lss 8 7] [0,3,6,7,8,9] (qs (qX 9) (qs (qs (.block 1 (qR [Qx 10 4 6 8,Ql 11 4 10,qa 5 (.alloc 118 [.str [],.i 0,.i 0,.i 0]),QS 4 5 11] [0,3,5,6,7,8] (qr [Qm 12 3,Qa 13 0 5,Qo 14 13,qa 15 (.buildS 9 1 1 [.str []] [(0,.t 14)]),Qw 16 9 1 16 12 15,Qm 3 16] [0,3,6,7,8]))) (qr [] [0,3,6,7,8])) (qr [Qu 17 .add 8 1,Qm 8 17] [0,3,6,7,8])))))) (qr [] [0,3]))) (qR [Qm 18 0,Qn 19 18,Qu 20 .leq 19 256,Qm 21 20,Bm 22 21 3,qb 23 21 (.call (.f 295) [.t 22]),Qp 24 21 23,Qm 2 24] [2] .ret)))
def c375:FB 375 []=some (r375,s375):=by kernel_rfl
def r387:RL:=[(4,none)]
def s387:SCode:=qR [Qb 2 8 0,qa 4 (.mov (.c (.str [])))] [1,2] (qs (qR [Ql 6 8 2,Qm 7 1,Q2 8 399 6 7,Qr 9 8] [1,2,9] (.cond (.t 9) Za15 .skip)) (qs (.drawL [Qm 10 1,Qa 12 3 2,qa 13 (.loadF false 1 (.t 12)),qa 11 (.call (.f 400) [.c (.str [32,32]),.t 10]),Q1 14 374 13,Qv 15 .add 11 14,Qm 5 15] [2,5]) (qs (qR [Qa 16 3 2,Qo 17 16,Qu 18 .neq 17 0] [2,5,18] (.cond (.t 18) (qr [Qm 19 5,Qa 20 4 2,Qo 21 20,qa 22 (.bin .add (.c (.str [32])) (.t 21)),Qv 23 .add 19 22,Qm 5 23] [2,5]) .skip)) (qs (qR [Qa 24 5 2,Qo 25 24,Qn 26 25,Qu 27 .gtr 26 0] [2,5,27] (.cond (.t 27) (qr [Qm 28 5,qa 29 (.bin .add (.t 28) (.c (.str [58]))),Qa 30 5 2,Qo 31 30,Q2 32 401 29 31,Qm 5 32] [2,5]) .skip)) (qs (qR [Qa 33 6 2,Qo 34 33,Qn 35 34,Qu 36 .gtr 35 0] [2,5,36] (.cond (.t 36) (qr [Qm 37 5,qa 38 (.bin .add (.t 37) (.c (.str [32,124]))),Qa 39 6 2,Qo 40 39,Q2 41 401 38 40,Qm 5 41] [5]) .skip)) (qR [Qm 42 5,Qm 4 42] [4] .ret))))))
def c387:FB 387 [2000002]=some (r387,s387):=by kernel_rfl
def r396:RL:=[(4,none)]
def s396:SCode:=qR [Qi 4 0] [0,1] (qs (qR [Qm 6 0,Qn 7 6,Qi 8 0] [0,1,7,8] (qs (.block 0 (.loop (qR [Qv 9 .lss 8 7] [0,1,7,8,9] (qs (qX 9) (qs (qs (.block 1 (qR [Qm 10 8,Qm 5 10] [0,1,5,7,8] (qR [Qm 11 1,Qm 12 0,Qm 13 5,Qx 14 1 12 13,Qo 15 14,qa 16 (.call (.t 11) [.t 15])] [0,1,5,7,8,16] (.cond (.t 16) (qR [Qm 17 5,Qm 4 17] [4] .ret) .skip)))) (qr [] [0,1,7,8])) (qr [Qu 18 .add 8 1,Qm 8 18] [0,1,7,8])))))) (qr [] []))) (qR [Qi 4 (-1)] [4] .ret))
def c396:FB 396 []=some (r396,s396):=by kernel_rfl
def r399:RL:=[(4,none)]
def s399:SCode:=qR [QB 2 27 8 0,Qf 4] [1,2] (qR [qa 5 (.build [.i 0,.i 0,.i 0] []),Qa 6 0 2,QS 3 6 5,Qa 7 7 2,⟨none,none,.store 1 (.t 7) (.c .nil)⟩] [1,2] (qR [Qm 8 1,Qu 9 .geq 8 0,Qm 10 9,Bm 11 10 1,qb 12 10 (.bin .leq (.t 11) (qi 8)),Qp 13 10 12,Qm 14 13,qb 15 14 (lm 8 2),qb 16 14 (.call (.f 385) [.t 15]),qb 17 14 (.call (.f 275) [.t 16]),Qp 18 14 17,Qm 4 18] [4] .ret))
def c399:FB 399 []=some (r399,s399):=by kernel_rfl
def r438:RL:=[(2,some (true,25))]
def s438:SCode:=qR Za7 [1,2] (qR [Qa 3 20 1,Qo 4 3,Qa 5 21 1,Qo 6 5,Qa 7 22 1,Qo 8 7,qa 9 (.build zItm [(20,(1,.t 4)),(21,(1,.t 6)),(22,(1,.t 8))]),QS 25 2 9] [2] .ret)
def c438:FB 438 [2000001]=some (r438,s438):=by kernel_rfl
end Go.Av
