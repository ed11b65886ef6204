/-
  THE TRANSLATED CODE. Printed by mkcode2.py.
-/
import Derived.Test.YtepngejmjdgccaaGreatDoorXCStoXC1
import Derived.Test.YtepngejmjdgccaaGreatDoorXAv24toXOpenG
import Derived.Test.YtepngejmjdgccaaGreatDoorProg
import Derived.Test.YtepngejmjdgccaaGreatDoorXSR4
import Derived.Test.YtepngejmjdgccaaGreatDoorXC3toXL4
namespace Go.Av
open Go
set_option linter.unusedSimpArgs false
set_option linter.unusedVariables false
def r3:RL:=[(2,none)]
def s3:SCode:=qR [Qf 2] [0] (qs (qR [Q0 4 5,Qr 5 4] [0,5] (.cond (.t 5) (qR [Qf 2] [2] .ret) .skip)) (qR [qa 3 (.mov (.c (.str [])))] [0,3] (qs (qR [Qm 6 0,qa 7 (.call (.f 6) [.t 6,qi 0,qi 11])] [0,3,7] (.cond (.t 7) (qr [Q0 8 7,Qm 9 0,Qx 10 1 8 9,Qo 11 10,Qm 3 11] [0,3]) .skip)) (qR [Qm 12 0,Q1 13 8 12,Qm 14 3,Qv 15 .eql 13 14,Qm 16 15,Bm 17 16 0,qb 18 16 (.call (.f 9) [.t 17]),Bm 19 16 0,qb 20 16 (.call (.f 6) [.t 19,qi 0,qi 6]),qb 21 16 (.eqb false (.t 18) (.t 20)),Qp 22 16 21,Qm 2 22] [2] .ret))))
theorem c3:FB 3 []=some (r3,s3):=by kernel_rfl
def r33:RL:=[(2,none)]
def s33:SCode:=qR [qa 2 (.mov (.c (.str [])))] [0] (qs (qR [Qm 3 0,Qn 4 3,Qu 5 .eql 4 0] [0,5] (.cond (.t 5) (qR [qa 2 (.mov (.c (.str [97,108,108])))] [2] .ret) .skip)) (qR [Qm 6 0,Q1 7 57 6,Qm 2 7] [2] .ret))
theorem c33:FB 33 []=some (r33,s33):=by kernel_rfl
def r36:RL:=[(2,none)]
def s36:SCode:=qR [qa 2 (.mov (.c (.str [])))] [0] (qR [qa 3 (.mov (.c (.str [34])))] [0,3] (qs (qR [Qi 4 0] [0,3,4] (qs (.block 0 (.loop (qs (qR [Qm 5 4,Qm 6 0,QN 7 6,Qv 8 .lss 5 7] [0,3,4,8] (qX 8)) (qs (qs (.block 1 (qs (qR [Qm 11 0,Qm 12 4,QI 13 11 12,qa 14 (.bin .eql (.t 13) (.c (.int .u8 34))),Qm 15 14,Ym 16 15 0,Ym 17 15 4,qc 18 15 (.index (.t 16) (.t 17)),qc 19 15 (.bin .eql (.t 18) (.c (.int .u8 92))),Qq 20 15 19] [0,3,4,20] (.cond (.t 20) (qr [Qm 21 3,qa 22 (.bin .add (.t 21) (.c (.str [92]))),Qm 3 22] [0,3,4]) .skip)) (qr [Qm 23 3,Qm 24 0,Qm 25 4,Qm 26 4,Qu 27 .add 26 1,qa 28 (.sliceS (.t 24) (some (.t 25)) (some (.t 27))),Qv 29 .add 23 28,Qm 3 29] [0,3,4]))) (qr [] [0,3,4])) (qr [Qm 9 4,Qu 10 .add 9 1,Qm 4 10] [0,3,4]))))) (qr [] [3]))) (qR [Qm 30 3,qa 31 (.bin .add (.t 30) (.c (.str [34]))),Qm 2 31] [2] .ret)))
theorem c36:FB 36 []=some (r36,s36):=by kernel_rfl
def r39:RL:=[(2,none)]
def s39:SCode:=qR [qa 2 (.mov (.c (.str [])))] [0] (qR [qa 3 (.mov (.c (.str [])))] [0,3] (qs (qs (.block 0 (.loop (qs (qR [Qm 4 0,Qu 5 .gtr 4 9] [0,3,5] (qX 5)) (qs (.block 1 (qR [Qm 6 0,Qu 7 .rem 6 10,qa 8 (.bin .add (qi 48) (.t 7)),qa 9 (.conv .u8 (.t 8)),qa 10 (.buildS 5 1 1 [.int .u8 0] [(0,.t 9)]),qa 11 (.raw (.convert 87 9 (.tmp 10))),Qm 12 3,Qv 13 .add 11 12,Qm 3 13] [0,3] (qr [Qm 14 0,Qu 15 .quo 14 10,Qm 0 15] [0,3]))) (qr [] [0,3]))))) (qr [] [0,3])) (qR [Qm 16 0,qa 17 (.bin .add (qi 48) (.t 16)),qa 18 (.conv .u8 (.t 17)),qa 19 (.buildS 5 1 1 [.int .u8 0] [(0,.t 18)]),qa 20 (.raw (.convert 87 9 (.tmp 19))),Qm 21 3,Qv 22 .add 20 21,Qm 2 22] [2] .ret)))
theorem c39:FB 39 []=some (r39,s39):=by kernel_rfl
def r57:RL:=[(2,none)]
def s57:SCode:=qR [qa 2 (.mov (.c (.str [])))] [0] (qs (qR [Qm 5 0,Q1 6 26 5,Qr 7 6] [0,7] (.cond (.t 7) (qR [qa 2 (.mov (.c (.str [])))] [2] .ret) .skip)) (qR [qa 3 (.mov (.c (.str [])))] [0,3] (qs (qR [Qi 4 0] [0,3,4] (qs (.block 0 (.loop (qs (qR [Qm 8 4,Qm 9 0,Qn 10 9,Qv 11 .lss 8 10] [0,3,4,11] (qX 11)) (qs (qs (.block 1 (qs (qR [Qm 14 4,Qu 15 .gtr 14 0] [0,3,4,15] (.cond (.t 15) (qr [Qm 16 3,qa 17 (.bin .add (.t 16) (.c (.str [32]))),Qm 3 17] [0,3,4]) .skip)) (qs (.drawT (.step (Qm 18 3) (.step (Qm 20 0) (.step (Qm 21 4) (.step (Qx 22 2 20 21) (.step (Qa 23 0 22) (.both (.step (Q0 19 86) (.step (Qo 24 23) (.step (Qx 25 1 19 24) (.step (Qo 26 25) (.step (Qv 27 .add 18 26) (.step (Qm 3 27) .done)))))) (.step (Qo 24 23) (.step (Q0 19 86) (.step (Qx 25 1 19 24) (.step (Qo 26 25) (.step (Qv 27 .add 18 26) (.step (Qm 3 27) .done)))))))))))) [0,3,4]) (qR [Qm 28 0,Qm 29 4,Qx 30 2 28 29,Ql 31 2 30,Q1 32 50 31,Qr 33 32] [0,3,4,33] (.cond (.t 33) (qr [Qm 34 3,qa 35 (.bin .add (.t 34) (.c (.str [32]))),Qm 36 0,Qm 37 4,Qx 38 2 36 37,Qa 39 1 38,Qo 40 39,Qv 41 .add 35 40,Qm 3 41] [0,3,4]) .skip))))) (qr [] [0,3,4])) (qr [Qm 12 4,Qu 13 .add 12 1,Qm 4 13] [0,3,4]))))) (qr [] [3]))) (qR [Qm 42 3,Qm 2 42] [2] .ret))))
theorem c57:FB 57 []=some (r57,s57):=by kernel_rfl
def r4:RL:=[(4,none)]
def s4:SCode:=qR [Qb 2 25 0,Qb 3 25 1,Qf 4] [2,3] (qs (qR [Q0 6 5,Qr 7 6] [2,3,7] (.cond (.t 7) (qR [Qf 4] [4] .ret) .skip)) (qs (qR [Ql 8 25 2,Q1 9 10 8,Qr 10 9,Qm 11 10,qc 12 11 (lm 25 3),qc 13 11 (.call (.f 10) [.t 12]),qc 14 11 (.not (.t 13)),Qq 15 11 14] [2,3,15] (.cond (.t 15) (qR [Qt 4] [4] .ret) .skip)) (qR [Ql 16 25 2,Ql 17 25 3,Q2 18 11 16 17,Qm 5 18] [2,3,5] (qs (qR [Qm 19 5,Ql 20 25 2,Ql 21 25 3,Q2 22 12 20 21,qa 23 (.eqb true (.t 19) (.t 22)),Qm 24 23,qc 25 24 (lm 25 2),qc 26 24 (lm 25 2),qc 27 24 (.call (.f 11) [.t 25,.t 26]),qc 28 24 (.not (.t 27)),Qq 29 24 28,Qm 30 29,qc 31 30 (lm 25 3),qc 32 30 (lm 25 2),qc 33 30 (.call (.f 11) [.t 31,.t 32]),Ym 34 30 5,qc 35 30 (.eqb true (.t 33) (.t 34)),Qq 36 30 35] [2,3,5,36] (.cond (.t 36) (qR [Qf 4] [4] .ret) .skip)) (qs (qR [Ql 37 25 2,Q1 38 13 37,Qr 39 38,Qm 40 39,qc 41 40 (lm 25 3),qc 42 40 (.call (.f 13) [.t 41]),qc 43 40 (.not (.t 42)),Qq 44 40 43] [2,3,5,44] (.cond (.t 44) (qR [Qt 4] [4] .ret) .skip)) (qs (.drawL [Qm 45 5,Qs 46 25 2,Qs 48 25 3,Q1 47 14 46,Q1 49 14 48,Qv 50 .eql 47 49,qa 51 (.eqb false (.t 45) (.t 50)),Qm 4 51] [4]) .ret))))))
theorem c4:FB 4 [2000002,2000003]=some (r4,s4):=by kernel_rfl
def r7:RL:=[(0,none)]
def s7:SCode:=qR [Qz 0] [] (qR [qa 1 (.buildS 9 1 12 [.str [],.str [],.str [],.str [],.str [],.str [],.str [],.str [],.str [],.str [],.str [],.str []] [(0,.c (.str [105,110,115,101,114,116])),(1,.c (.str [114,101,112,101,97,108])),(2,.c (.str [119,111,114,100,115])),(3,.c (.str [112,117,116])),(4,.c (.str [104,101,97,100,105,110,103])),(5,.c (.str [114,101,108,97,98,101,108])),(6,.c (.str [109,111,118,101])),(7,.c (.str [99,111,109,109,101,110,99,101])),(8,.c (.str [101,120,112,105,114,101])),(9,.c (.str [114,101,118,105,118,101])),(10,.c (.str [104,97,112,112,101,110])),(11,.c (.str [99,111,114,114,101,99,116]))]),Qm 0 1] [0] .ret)
theorem c7:FB 7 []=some (r7,s7):=by kernel_rfl
def r34:RL:=[(4,none)]
def s34:SCode:=qR [qa 4 (.mov (.c (.str [])))] [0,1] (qs (qR [Qm 5 1,Qu 6 .eql 5 0,Qm 7 6,Ym 8 7 1,qc 9 7 (.bin .eql (.t 8) (qi 1)),Qq 10 7 9] [0,1,10] (.cond (.t 10) (qR [Qm 11 0,qa 12 (.bin .add (.c (.str [105,110,116,111,32])) (.t 11)),Qm 4 12] [4] .ret) .skip)) (qs (qR [Qm 13 1,Qu 14 .eql 13 2] [0,14] (.cond (.t 14) (qR [Qm 15 0,qa 16 (.bin .add (.c (.str [98,101,104,105,110,100,32])) (.t 15)),Qm 4 16] [4] .ret) .skip)) (qR [Qm 17 0,qa 18 (.bin .add (.c (.str [97,104,101,97,100,32,111,102,32])) (.t 17)),Qm 4 18] [4] .ret)))
theorem c34:FB 34 []=some (r34,s34):=by kernel_rfl
def r37:RL:=[(2,none)]
def s37:SCode:=qR [qa 2 (.mov (.c (.str [])))] [0] (qR [Qm 3 0,Q1 4 58 3,Q1 5 36 4,Qm 2 5] [2] .ret)
theorem c37:FB 37 []=some (r37,s37):=by kernel_rfl
def r58:RL:=[(2,none)]
def s58:SCode:=qR [qa 2 (.mov (.c (.str [])))] [0] (qR [qa 3 (.mov (.c (.str [])))] [0,3] (qs (qR [Qi 4 0] [0,3,4] (qs (.block 0 (.loop (qs (qR [Qm 5 4,Qm 6 0,Qn 7 6,Qv 8 .lss 5 7] [0,3,4,8] (qX 8)) (qs (qs (.block 1 (qs (qR [Qm 11 4,Qu 12 .gtr 11 0] [0,3,4,12] (.cond (.t 12) (qr [Qm 13 3,qa 14 (.bin .add (.t 13) (.c (.str [32]))),Qm 3 14] [0,3,4]) .skip)) (qr [Qm 15 3,Qm 16 0,Qm 17 4,Qx 18 1 16 17,Qo 19 18,Qv 20 .add 15 19,Qm 3 20] [0,3,4]))) (qr [] [0,3,4])) (qr [Qm 9 4,Qu 10 .add 9 1,Qm 4 10] [0,3,4]))))) (qr [] [3]))) (qR [Qm 21 3,Qm 2 21] [2] .ret)))
theorem c58:FB 58 []=some (r58,s58):=by kernel_rfl
def r8:RL:=[(2,none)]
def s8:SCode:=qR [qa 2 (.mov (.c (.str [])))] [0] (qs (qR [Qm 3 0,Qu 4 .lss 3 0,Qm 5 4,Ym 6 5 0,qc 7 5 (.bin .geq (.t 6) (qi 12)),Qq 8 5 7] [0,8] (.cond (.t 8) (qR [qa 2 (.mov (.c (.str [])))] [2] .ret) .skip)) (qR [Qm 9 0,qa 10 (.indexP 12 1 (.g 0) (.t 9)),Qo 11 10,Qm 2 11] [2] .ret))
theorem c8:FB 8 []=some (r8,s8):=by kernel_rfl
def r14:RL:=[(2,none)]
def s14:SCode:=qR [Qb 1 25 0,qa 2 (.mov (.c (.str [])))] [1] (qR [Qa 7 1 1,Qo 8 7,Q1 9 33 8,Qm 3 9] [1,3] (qR [qa 4 (.mov (.c (.str [])))] [1,3] (qs (qR [Qa 10 0 1,Qo 11 10] [1,3,11] (qs (.block 0 (qR [Qu 38 .eql 11 0,Qm 37 38] [1,3,11,37] (.cond (.t 37) (qR [Qa 40 5 1,Ql 41 8 40,Q1 42 29 41,Qm 39 42,Qe 43 0 39,Qe 44 1 39,Qm 5 43,Qm 6 44] [1,3,5] (.drawL [Qm 45 3,Qa 46 3 1,qa 47 (.loadF false 1 (.t 46)),Qa 49 3 1,qa 50 (.loadF false 1 (.t 49)),Qm 54 5,Q2 48 34 45 47,Q1 51 35 50,Qv 52 .add 48 51,qa 53 (.bin .add (.t 52) (.c (.str [32,105,110,115,101,114,116,32]))),Q1 55 36 54,Qv 56 .add 53 55,Qm 4 56] [1,4])) (qR [Qu 58 .eql 11 1,Qm 57 58] [1,3,11,57] (.cond (.t 57) (qr [Qm 59 3,qa 60 (.bin .add (.c (.str [114,101,112,101,97,108,32])) (.t 59)),Qm 4 60] [1,4]) (qR [Qu 62 .eql 11 2,Qm 61 62] [1,3,11,61] (.cond (.t 61) (.drawL [Qm 63 3,qa 64 (.bin .add (.c (.str [105,110,32])) (.t 63)),qa 65 (.bin .add (.t 64) (.c (.str [32,102,111,114,32]))),Qa 66 13 1,qa 67 (.loadF false 1 (.t 66)),Qa 71 14 1,qa 72 (.loadF false 1 (.t 71)),Qa 75 4 1,qa 76 (.loadF false 1 (.t 75)),Q1 68 37 67,Qv 69 .add 65 68,qa 70 (.bin .add (.t 69) (.c (.str [32,112,117,116,32]))),Q1 73 37 72,Qv 74 .add 70 73,Q1 77 38 76,Qv 78 .add 74 77,Qm 4 78] [1,4]) (qR [Qu 80 .eql 11 3,Qm 79 80] [1,3,11,79] (.cond (.t 79) (qR [Qa 81 13 1,Qo 82 81,Qn 83 82,Qu 84 .eql 83 0] [1,3,84] (.cond (.t 84) (qr [Qm 85 3,qa 86 (.bin .add (.c (.str [105,110,32])) (.t 85)),qa 87 (.bin .add (.t 86) (.c (.str [32,97,104,101,97,100,32,111,102,32,97,108,108,32,112,117,116,32]))),Qa 88 14 1,Qo 89 88,Q1 90 37 89,Qv 91 .add 87 90,Qm 4 91] [1,4]) (.drawL [Qm 92 3,qa 93 (.bin .add (.c (.str [105,110,32])) (.t 92)),qa 94 (.bin .add (.t 93) (.c (.str [32,98,101,104,105,110,100,32]))),Qa 95 13 1,qa 96 (.loadF false 1 (.t 95)),Qa 100 14 1,qa 101 (.loadF false 1 (.t 100)),Qa 104 4 1,qa 105 (.loadF false 1 (.t 104)),Q1 97 37 96,Qv 98 .add 94 97,qa 99 (.bin .add (.t 98) (.c (.str [32,112,117,116,32]))),Q1 102 37 101,Qv 103 .add 99 102,Q1 106 38 105,Qv 107 .add 103 106,Qm 4 107] [1,4]))) (qR [Qu 109 .eql 11 4,Qm 108 109] [1,3,11,108] (.cond (.t 108) (qr [Qm 110 3,qa 111 (.bin .add (.c (.str [104,101,97,100,32])) (.t 110)),qa 112 (.bin .add (.t 111) (.c (.str [32,97,115,32]))),Qa 113 14 1,Qo 114 113,Q1 115 37 114,Qv 116 .add 112 115,Qm 4 116] [1,4]) (qR [Qu 118 .eql 11 5,Qm 117 118] [1,3,11,117] (.cond (.t 117) (qr [Qm 119 3,qa 120 (.bin .add (.c (.str [110,117,109,98,101,114,32])) (.t 119)),qa 121 (.bin .add (.t 120) (.c (.str [32,97,115,32]))),Qa 122 15 1,Qo 123 122,Qv 124 .add 121 123,Qm 4 124] [1,4]) (qR [Qu 126 .eql 11 6,Qm 125 126] [1,3,11,125] (.cond (.t 125) (.drawL [Qm 127 3,qa 128 (.bin .add (.c (.str [109,111,118,101,32])) (.t 127)),qa 129 (.bin .add (.t 128) (.c (.str [32]))),Qa 130 2 1,qa 131 (.loadF false 1 (.t 130)),Qa 133 3 1,qa 134 (.loadF false 1 (.t 133)),Qa 137 3 1,qa 138 (.loadF false 1 (.t 137)),Q1 132 33 131,Q2 135 34 132 134,Qv 136 .add 129 135,Q1 139 35 138,Qv 140 .add 136 139,Qm 4 140] [1,4]) (qR [Qu 142 .eql 11 10,Qm 141 142] [1,11,141] (.cond (.t 141) (qs (.drawL [Qa 143 23 1,qa 144 (.loadF false 1 (.t 143)),qa 145 (.bin .add (.c (.str [104,97,112,112,101,110,32])) (.t 144)),qa 146 (.bin .add (.t 145) (.c (.str [32,111,110,32,100,97,121,32]))),Qa 147 22 1,qa 148 (.loadF false 1 (.t 147)),Q1 149 39 148,Qv 150 .add 146 149,Qm 2 150] [2]) .ret) (qR [Qu 152 .eql 11 11,Qm 151 152] [1,151] (.cond (.t 151) (qs (.drawT (.step (Qa 153 20 1) (.step (qa 154 (.loadF false 1 (.t 153))) (.step (Qa 158 21 1) (.step (qa 159 (.loadF false 1 (.t 158))) (.step (Qa 163 24 1) (.step (qa 164 (.loadF false 1 (.t 163))) (.step (qa 165 (.indexA 25 (.t 164) (qi 0))) (.both (.step (Q1 155 39 154) (.step (qa 156 (.bin .add (.c (.str [99,111,114,114,101,99,116,32,97,99,116,32])) (.t 155))) (.step (qa 157 (.bin .add (.t 156) (.c (.str [32,105,116,101,109,32])))) (.both (.step (Q1 160 39 159) (.step (Qv 161 .add 157 160) (.step (qa 162 (.bin .add (.t 161) (.c (.str [32,97,115,32])))) (.step (Ql 166 25 165) (.step (Q1 167 14 166) (.step (Qv 168 .add 162 167) (.step (Qm 2 168) .done))))))) (.step (Ql 166 25 165) (.step (Q1 160 39 159) (.step (Qv 161 .add 157 160) (.step (qa 162 (.bin .add (.t 161) (.c (.str [32,97,115,32])))) (.step (Q1 167 14 166) (.step (Qv 168 .add 162 167) (.step (Qm 2 168) .done))))))))))) (.step (Ql 166 25 165) (.step (Q1 155 39 154) (.step (qa 156 (.bin .add (.c (.str [99,111,114,114,101,99,116,32,97,99,116,32])) (.t 155))) (.step (qa 157 (.bin .add (.t 156) (.c (.str [32,105,116,101,109,32])))) (.step (Q1 160 39 159) (.step (Qv 161 .add 157 160) (.step (qa 162 (.bin .add (.t 161) (.c (.str [32,97,115,32])))) (.step (Q1 167 14 166) (.step (Qv 168 .add 162 167) (.step (Qm 2 168) .done)))))))))))))))))) [2]) .ret) (qs (.drawT (.step (Qa 13 0 1) (.step (qa 14 (.loadF false 1 (.t 13))) (.step (Qa 18 20 1) (.step (qa 19 (.loadF false 1 (.t 18))) (.step (Q0 12 7) (.step (Qx 15 1 12 14) (.both (.step (Qo 16 15) (.step (qa 17 (.bin .add (.t 16) (.c (.str [32,97,99,116,32])))) (.step (Q1 20 39 19) (.step (Qv 21 .add 17 20) (.step (Qm 4 21) .done))))) (.step (Q1 20 39 19) (.step (Qo 16 15) (.step (qa 17 (.bin .add (.t 16) (.c (.str [32,97,99,116,32])))) (.step (Qv 21 .add 17 20) (.step (Qm 4 21) .done)))))))))))) [1,4]) (qs (qR [Qa 22 21 1,Qo 23 22,Qu 24 .geq 23 0] [1,4,24] (.cond (.t 24) (qr [Qm 25 4,qa 26 (.bin .add (.t 25) (.c (.str [32,105,116,101,109,32]))),Qa 27 21 1,Qo 28 27,Q1 29 39 28,Qv 30 .add 26 29,Qm 4 30] [1,4]) .skip)) (qR [Qm 31 4,qa 32 (.bin .add (.t 31) (.c (.str [32,102,114,111,109,32,100,97,121,32]))),Qa 33 22 1,Qo 34 33,Q1 35 39 34,Qv 36 .add 32 35,Qm 2 36] [2] .ret)))))))))))))))))))))) (qr [] [1,4]))) (qs (qR [Qa 169 16 1,Qo 170 169,qa 171 (.bin .neq (.t 170) (.c (.str [])))] [1,4,171] (.cond (.t 171) (qr [Qm 172 4,qa 173 (.bin .add (.t 172) (.c (.str [32,114,101,97,100,32,102,111,114,32]))),Qa 174 16 1,Qo 175 174,Qv 176 .add 173 175,Qm 4 176] [1,4]) .skip)) (qs (qR [Qa 177 17 1,Qa 178 0 177,Qo 179 178] [1,4,179] (qs (.block 1 (qR [Qu 181 .eql 179 1,Qm 180 181] [1,4,179,180] (.cond (.t 180) (qr [Qm 182 4,qa 183 (.bin .add (.t 182) (.c (.str [32,102,114,111,109,32,100,97,121,32]))),Qa 184 17 1,Qa 185 1 184,Qo 186 185,Q1 187 39 186,Qv 188 .add 183 187,Qm 4 188] [4]) (qR [Qu 190 .eql 179 2,Qm 189 190] [1,4,179,189] (.cond (.t 189) (qr [Qm 191 4,qa 192 (.bin .add (.t 191) (.c (.str [32,98,121,32,111,114,100,101,114]))),Qm 4 192] [4]) (qR [Qu 194 .eql 179 3,Qm 193 194] [1,4,193] (.cond (.t 193) (qr [Qm 195 4,qa 196 (.bin .add (.t 195) (.c (.str [32,111,110,32,101,118,101,110,116,32]))),Qa 197 17 1,Qa 198 2 197,Qo 199 198,Qv 200 .add 196 199,Qm 4 200] [4]) .skip))))))) (qr [] [4]))) (qR [Qm 201 4,Qm 2 201] [2] .ret))))))
theorem c14:FB 14 [2000001]=some (r14,s14):=by kernel_rfl
def r35:RL:=[(2,none)]
def s35:SCode:=qR [qa 2 (.mov (.c (.str [])))] [0] (qs (qR [Qm 3 0,Qu 4 .eql 3 0] [0,4] (.cond (.t 4) (qR [qa 2 (.mov (.c (.str [32,102,105,114,115,116])))] [2] .ret) .skip)) (qs (qR [Qm 5 0,Qu 6 .eql 5 1] [6] (.cond (.t 6) (qR [qa 2 (.mov (.c (.str [32,108,97,115,116])))] [2] .ret) .skip)) (qR [qa 2 (.mov (.c (.str [])))] [2] .ret)))
theorem c35:FB 35 []=some (r35,s35):=by kernel_rfl
def r38:RL:=[(2,none)]
def s38:SCode:=qR [qa 2 (.mov (.c (.str [])))] [0] (qs (qR [Qm 3 0,Qu 4 .eql 3 0] [0,4] (.cond (.t 4) (qR [qa 2 (.mov (.c (.str [32,101,97,99,104])))] [2] .ret) .skip)) (qR [Qm 5 0,Q1 6 39 5,qa 7 (.bin .add (.c (.str [32,97,116,32])) (.t 6)),Qm 2 7] [2] .ret))
theorem c38:FB 38 []=some (r38,s38):=by kernel_rfl
end Go.Av
namespace Go.Av
open Go Go.RowKit Go.Proofs
set_option linter.unusedSimpArgs false
set_option linter.unusedVariables false
theorem k12 {k:Int} (h0:0<=k) (h7:k<=11):k=0\/k=1\/k=2\/k=3\/k=4\/k=5\/k=6\/k=7\/k=8\/k=9\/k=10\/k=11:=by omega
def kindName (k:Int):List UInt8:=if 0<=k/\k<=11 then synNames.getD k.toNat []else []
section
variable (G:Glob)
theorem f8 (hN:G.tab 0=some (synNames.map AV.str)) (k:Int):Pure G Tryz.prog 8 [.int .i64 k] (.str (kindName k)):=by
 have hg:=eval_g hN
 refine Pure.w c8 λR hR=>?_
 unfold s8 r8
 by_cases hk:0<=k/\k<=11
 ·rcases k12 hk.1 hk.2 with rfl|rfl|rfl|rfl|rfl|rfl|rfl|rfl|rfl|rfl|rfl|rfl<;>((repeat' (first|(with_reducible (first|refine split_case (λh=>?_) (λh=>?_)|refine gd_case (λh=>?_) (λh=>?_)|refine pick_case (λh=>?_) (λh=>?_))<;>(try simp only[Da,Db,Dc,Dw,De,Df,Dg,Dh]at h))|(with_reducible refine And.intro (by omega) ?_)|simp only[EVz,seval,↓reduceIte,EV6,EV7,hg,synNames,List.map,Int.toNat,List.drop,List.headD,List.length]|(with_reducible intro blk hblk;(try(have hnx:=hblk;simp only[EVK]at hnx;first|(have hne:=And.intro hnx hne)|(have hne:=hnx))))|(with_reducible refine both_case ?_ ?_)|(with_reducible refine same_case ?_)|(exfalso;omega)));exact RET.eq hR rfl)
 ·have hn:kindName k=[]:=by unfold kindName;rw[if_neg hk]
  rw[hn]at hR
  (repeat' (first|(with_reducible (first|refine split_case (λh=>?_) (λh=>?_)|refine gd_case (λh=>?_) (λh=>?_)|refine pick_case (λh=>?_) (λh=>?_))<;>(try simp only[Da,Db,Dc,Dw,De,Df,Dg,Dh]at h))|(with_reducible refine And.intro (by omega) ?_)|simp only[EVz,seval,↓reduceIte,EV6,EV7]|(with_reducible intro blk hblk;(try(have hnx:=hblk;simp only[EVK]at hnx;first|(have hne:=And.intro hnx hne)|(have hne:=hnx))))|(with_reducible refine both_case ?_ ?_)|(with_reducible refine same_case ?_)|(exfalso;omega)))
  all_goals exact RET.eq hR rfl
theorem f7:Pure G Tryz.prog 7 [] (.lst 1 (synNames.map srow)):=by
 refine Pure.w c7 λR hR=>?_
 unfold s7 r7
 (repeat' (first|(with_reducible (first|refine split_case (λh=>?_) (λh=>?_)|refine gd_case (λh=>?_) (λh=>?_)|refine pick_case (λh=>?_) (λh=>?_))<;>(try simp only[Da,Db,Dc,Dw,De,Df,Dg,Dh]at h))|(with_reducible refine And.intro (by omega) ?_)|simp only[EVz,seval,↓reduceIte,EV6,EV7,hne]|simp only[EVz,seval,↓reduceIte,EV6,EV7]|(with_reducible intro blk hblk;(try(have hnx:=hblk;simp only[EVK]at hnx;first|(have hne:=And.intro hnx hne)|(have hne:=hnx))))|(with_reducible refine both_case ?_ ?_)|(with_reducible refine same_case ?_)|(exfalso;omega)))
 refine⟨synNames.map srow,rfl,?_,rfl,?_⟩
 ·intro r hr
  obtain⟨x,_,rfl⟩:=List.mem_map.1 hr
  rfl
 ·exact hR _ _ (Or.inl (Or.inr ⟨rfl,rfl⟩))
theorem law_SyntaxKinds (hN:G.tab 0=some (synNames.map AV.str)) (hA:Pure G Tryz.prog 5 [] (.bool true)) (k:Int):Pure G Tryz.prog 3 [.int .i64 k] (.bool true):=by
 refine Pure.w c3 λR hR=>?_
 unfold s3 r3
 have hK:=f8 G hN k
 have hIn:=λn lo hi=>f6 G n lo hi
 have hM:=f9 G k
 by_cases hk:0<=k/\k<=11
 ·have e1:inR k 0 11=true:=by unfold inR;simp;omega
  have hg:(synNames.map srow).getD k.toNat []=srow (kindName k):=by
   rw[List.getD_eq_getElem?_getD,List.getElem?_map]
   unfold kindName
   rw[if_pos hk,List.getD_eq_getElem?_getD]
   have:k.toNat<synNames.length:=by show k.toNat<12;omega
   rw[List.getElem?_eq_getElem this];rfl
  have hl:(synNames.map srow).length=12:=rfl
  (repeat' (first|(with_reducible (first|refine split_case (λh=>?_) (λh=>?_)|refine gd_case (λh=>?_) (λh=>?_)|refine pick_case (λh=>?_) (λh=>?_))<;>(try simp only[Da,Db,Dc,Dw,De,Df,Dg,Dh]at h))|(with_reducible refine And.intro (by omega) ?_)|(with_reducible refine CALL_pure (hA) ?_)|(with_reducible refine CALL_pure (hIn _ _ _) ?_)|(with_reducible refine CALL_pure (hK) ?_)|(with_reducible refine CALL_pure (hM) ?_)|(with_reducible refine CALL_pure (f7 G) ?_)|simp only[EVz,seval,↓reduceIte,EV6,EV7,e1,hg,hl,srow]|(with_reducible intro blk hblk;(try(have hnx:=hblk;simp only[EVK]at hnx;first|(have hne:=And.intro hnx hne)|(have hne:=hnx))))|(with_reducible refine both_case ?_ ?_)|(with_reducible refine same_case ?_)|(exfalso;omega)))
  all_goals exact RET.eq hR (congrArg AV.bool (by simp))
 ·have e1:inR k 0 11=false:=by unfold inR;simp;omega
  have hn:kindName k=[]:=by unfold kindName;rw[if_neg hk]
  rw[hn]at hK
  (repeat' (first|(with_reducible (first|refine split_case (λh=>?_) (λh=>?_)|refine gd_case (λh=>?_) (λh=>?_)|refine pick_case (λh=>?_) (λh=>?_))<;>(try simp only[Da,Db,Dc,Dw,De,Df,Dg,Dh]at h))|(with_reducible refine And.intro (by omega) ?_)|(with_reducible refine CALL_pure (hA) ?_)|(with_reducible refine CALL_pure (hIn _ _ _) ?_)|(with_reducible refine CALL_pure (hK) ?_)|(with_reducible refine CALL_pure (hM) ?_)|simp only[EVz,seval,↓reduceIte,EV6,EV7,e1]|(with_reducible intro blk hblk;(try(have hnx:=hblk;simp only[EVK]at hnx;first|(have hne:=And.intro hnx hne)|(have hne:=hnx))))|(with_reducible refine both_case ?_ ?_)|(with_reducible refine same_case ?_)|(exfalso;omega)))
  all_goals exact RET.eq hR (congrArg AV.bool (by simp))
end
end Go.Av
