/-
  THE TRANSLATED CODE. Printed by mkcode2.py.
-/
import Derived.Test.YtjolkfjccojnnaaGreatDoorXGlobtoXCS
import Derived.Test.YtjolkfjccojnnaaGreatDoorXAv26toXOpenG
import Derived.Test.YtjolkfjccojnnaaGreatDoorProg
import Derived.Test.YtjolkfjccojnnaaGreatDoorXL13toXL15
namespace Go.Av
open Go List
set_option linter.unusedSimpArgs false
set_option linter.unusedVariables false
def r62:RL:=[(6,some (true,8)),(7,none)]
def s62:SCode:=qR [Qb 3 8 0,Qb 4 8 1,Qb 5 28 2,QU 6 27,Qi 7 0] [3,4,5,6] (qR [Qa 11 6 4,Qo 12 11,Qa 13 3 5,Qa 14 13 13,Qo 15 14,Qa 16 3 5,Qa 17 14 16,Qo 18 17,Qa 19 3 5,Qa 20 4 19,Qo 21 20,Qa 22 0 5,Qo 23 22,Qa 24 1 5,Qo 25 24,Q6 26 118 12 15 18 21 23 25,Qm 10 26,Qe 27 0 10,Qe 28 1 10,qa 8 (.alloc 24 [.nil]),QS 1 8 27,Qm 9 28] [3,4,6,8,9] (qs (qR [Qm 29 9,Qu 30 .neq 29 0] [3,4,6,8,9,30] (.cond (.t 30) (qR [Ql 31 8 3,Qm 32 9,QS 8 6 31,Qm 7 32] [6,7] .ret) .skip)) (qR [Ql 33 8 3,Qa 34 0 4,Ql 35 3 34,qa 36 (.mkfun (.func 119) [] [.t 8]),Q3 37 114 33 35 36,QS 8 6 37,Qi 7 0] [6,7] .ret)))
theorem c62:FB 62 [2000003,2000004,2000005]=some (r62,s62):=by kernel_rfl
def r65:RL:=[(6,some (true,8)),(7,none)]
def s65:SCode:=qR [Qb 3 8 0,QB 4 27 8 1,QB 5 36 28 2,QU 6 27,Qi 7 0] [3,4,5,6] (qR [Ql 14 8 3,Qa 15 0 4,Ql 16 3 15,Q2 17 124 14 16,Qm 13 17,Qe 18 0 13,Qe 19 1 13,Qe 20 2 13,qa 8 (.alloc 23 [.int .i64 0,.int .i64 0,.int .i64 0]),QS 3 8 18,Qm 9 19,Qm 10 20] [3,4,5,6,8] (qR [Ql 22 8 3,Ql 23 3 8,Q2 24 37 22 23,Qm 21 24,Qe 25 0 21,Qe 26 1 21,QU 11 27,QS 8 11 25,Qm 12 26] [3,4,5,6,11] (qR [Qa 27 3 5,Qa 28 15 27,Qo 29 28,Qa 30 4 4,QS 1 30 29] [3,4,5,6,11] (qs (qR [Ql 31 8 11,Ql 32 8 4,Q2 33 107 31 32,Qu 34 .eql 33 10] [3,4,5,6,34] (.cond (.t 34) (qR [Ql 35 8 3,QS 8 6 35,Qi 7 10] [6,7] .ret) .skip)) (qR [Ql 36 8 3,Qa 37 0 4,Ql 38 3 37,qa 39 (.mkfun (.func 125) [] [.t 5]),Q3 40 114 36 38 39,QS 8 6 40,Qi 7 0] [6,7] .ret)))))
theorem c65:FB 65 [2000003]=some (r65,s65):=by kernel_rfl
def r107:RL:=[(4,none)]
def s107:SCode:=qR [Qb 2 8 0,QB 3 27 8 1,Qi 4 0] [2,3] (qs (qR [Qa 5 3 2,Qo 6 5,Qa 7 3 3,Qo 8 7,Q2 9 80 6 8,Qr 10 9] [2,3,10] (.cond (.t 10) (qR [Qi 4 9] [4] .ret) .skip)) (qs (qR [Qa 11 7 2,Qo 12 11,qa 13 (.mkfun (.func 172) [] [.t 3]),Q2 14 171 12 13] [14] (.cond (.t 14) (qR [Qi 4 10] [4] .ret) .skip)) (qR [Qi 4 0] [4] .ret)))
theorem c107:FB 107 [2000002]=some (r107,s107):=by kernel_rfl
def r113:RL:=[(4,none)]
def s113:SCode:=qR [Qb 3 3 1,Qf 4] [0,3] (qR [Qm 5 0,Ql 6 3 3,Q2 7 179 5 6,Qu 8 .geq 7 0,Qm 4 8] [4] .ret)
theorem c113:FB 113 [2000003]=some (r113,s113):=by kernel_rfl
def r116:RL:=[(6,none)]
def s116:SCode:=qR [Qz 6] [0,1,2] (qR [Qm 10 0,Qm 11 1,qa 12 (.raw (.slice 25 (.tmp 10) (some (.tmp 11)) none none))] [0,1,2] (qR [Qm 13 2,Qn 14 13,Qm 7 14] [0,1,2,7] (qs (qR [Qm 15 7,Qu 16 .eql 15 0] [0,1,2,7,16] (.cond (.t 16) (qR [Qm 17 0,Qm 6 17] [6] .ret) .skip)) (qR [Qm 18 0,Qn 19 18,Qm 8 19] [0,1,2,7,8] (qs (qR [Qm 20 1,Qm 21 8,Qv 22 .eql 20 21] [0,1,2,7,8,22] (.cond (.t 22) (qR [Qm 23 0,Qm 24 2,qa 25 (.raw (.call (.mk (.builtin .append) #[.tmp 23,.tmp 24] #[25,25]))),Qm 6 25] [6] .ret) .skip)) (qs (qR [Qm 26 8,Qm 27 7,Qv 28 .add 26 27,Qm 29 0,qa 30 (.raw (.call (.mk (.builtin .cap) #[.tmp 29] #[25]))),Qv 31 .gtr 28 30] [0,1,2,7,8,31] (.cond (.t 31) (qR [Qm 32 0,Qm 33 1,qa 34 (.raw (.slice 25 (.tmp 32) none (some (.tmp 33)) none)),Qm 35 8,Qm 36 7,Qv 37 .add 35 36,Qm 38 1,Qv 39 .sub 37 38,qa 40 (.raw (.call (.mk (.builtin .append) #[.tmp 34,.tmp 39] #[25,3]))),Qm 9 40] [0,1,2,7,9] (qR [Qm 41 9,Qm 42 1,qa 43 (.raw (.slice 25 (.tmp 41) (some (.tmp 42)) none none)),Qm 44 2,qa 45 (.raw (.call (.mk (.builtin .copy) #[.tmp 43,.tmp 44] #[25,25])))] [0,1,7,9] (qs (.drawT (.step (Qm 46 9) (.step (Qm 47 1) (.step (Qm 48 7) (.step (Qv 49 .add 47 48) (.step (Qm 51 0) (.step (Qm 52 1) (.both (.step (qa 50 (.raw (.slice 25 (.tmp 46) (some (.tmp 49)) none none))) (.step (qa 53 (.raw (.slice 25 (.tmp 51) (some (.tmp 52)) none none))) (.step (qa 54 (.raw (.call (.mk (.builtin .copy) #[.tmp 50,.tmp 53] #[25,25])))) .done))) (.step (qa 53 (.raw (.slice 25 (.tmp 51) (some (.tmp 52)) none none))) (.step (qa 50 (.raw (.slice 25 (.tmp 46) (some (.tmp 49)) none none))) (.step (qa 54 (.raw (.call (.mk (.builtin .copy) #[.tmp 50,.tmp 53] #[25,25])))) .done)))))))))) [9]) (qR [Qm 55 9,Qm 6 55] [6] .ret)))) .skip)) (qR [Qm 56 0,Qm 57 8,Qm 58 7,Qv 59 .add 57 58,qa 60 (.raw (.slice 25 (.tmp 56) none (some (.tmp 59)) none)),Qm 0 60] [0,1,2,7,8] (qs (qR [Qm 61 2,Qm 62 0,Qm 63 1,Qm 64 7,Qv 65 .add 63 64,qa 66 (.raw (.slice 25 (.tmp 62) (some (.tmp 65)) none none)),Q2 67 181 61 66,Qr 68 67] [0,1,2,7,8,68] (.cond (.t 68) (qs (.drawT (.step (Qm 69 0) (.step (Qm 70 1) (.step (Qm 71 7) (.step (Qv 72 .add 70 71) (.step (Qm 74 0) (.step (Qm 75 1) (.both (.step (qa 73 (.raw (.slice 25 (.tmp 69) (some (.tmp 72)) none none))) (.step (qa 76 (.raw (.slice 25 (.tmp 74) (some (.tmp 75)) none none))) (.step (qa 77 (.raw (.call (.mk (.builtin .copy) #[.tmp 73,.tmp 76] #[25,25])))) .done))) (.step (qa 76 (.raw (.slice 25 (.tmp 74) (some (.tmp 75)) none none))) (.step (qa 73 (.raw (.slice 25 (.tmp 69) (some (.tmp 72)) none none))) (.step (qa 77 (.raw (.call (.mk (.builtin .copy) #[.tmp 73,.tmp 76] #[25,25])))) .done)))))))))) [0,1,2]) (qR [Qm 78 0,Qm 79 1,qa 80 (.raw (.slice 25 (.tmp 78) (some (.tmp 79)) none none)),Qm 81 2,qa 82 (.raw (.call (.mk (.builtin .copy) #[.tmp 80,.tmp 81] #[25,25])))] [0] (qR [Qm 83 0,Qm 6 83] [6] .ret))) .skip)) (qR [Qm 84 0,Qm 85 8,qa 86 (.raw (.slice 25 (.tmp 84) (some (.tmp 85)) none none)),Qm 87 2,qa 88 (.raw (.call (.mk (.builtin .copy) #[.tmp 86,.tmp 87] #[25,25])))] [0,1,7] (qR [Qm 89 0,Qm 90 1,qa 91 (.raw (.slice 25 (.tmp 89) (some (.tmp 90)) none none)),Qm 92 7,Q2 93 182 91 92] [0] (qR [Qm 94 0,Qm 6 94] [6] .ret)))))))))))
theorem c116:FB 116 [3000012,3000025,3000034,3000043,3000050,3000053,3000060,3000066,3000073,3000076,3000080,3000086,3000091]=some (r116,s116):=by kernel_rfl
def r119:RL:=[]
def s119:SCode:=qr [Qm 3 0,Qo 4 1,Qc 5 3,Qa 6 6 5,QS 1 6 4] []
theorem c119:FB 119 []=some (r119,s119):=by kernel_rfl
def r122:RL:=[(8,none)]
def s122:SCode:=qR [Qz 8] [0,1,2,3] (qR [Qz 9] [0,1,2,3,9] (qs (qR [Qm 12 0,Qn 13 12,Qi 14 0] [1,2,3,9,12,13,14] (qs (.block 0 (.loop (qR [Qv 15 .lss 14 13] [1,2,3,9,12,13,14,15] (qs (qX 15) (qs (qs (.block 1 (qR [Qm 16 14,Qx 17 1 12 14,Qo 18 17,Qm 10 16,Qm 11 18] [1,2,3,9,10,11,12,13,14] (qr [Qm 19 9,Qm 20 11,Qm 21 1,Qm 22 2,Qm 23 3,Qm 24 10,Qv 25 .add 23 24,qa 26 (.build [.int .i64 0,.int .i64 0,.int .i64 0] [(0,(1,.t 21)),(1,(1,.t 22)),(2,(1,.t 25))]),qa 27 (.build [.str [],.int .i64 0,.int .i64 0,.int .i64 0] [(0,(1,.t 20)),(1,(3,.t 26))]),qa 28 (.buildS 120 4 1 [.str [],.int .i64 0,.int .i64 0,.int .i64 0] [(0,.t 27)]),Qw 29 120 4 40 19 28,Qm 9 29] [1,2,3,9,12,13,14]))) (qr [] [1,2,3,9,12,13,14])) (qr [Qu 30 .add 14 1,Qm 14 30] [1,2,3,9,12,13,14])))))) (qr [] [9]))) (qR [Qm 31 9,Qm 8 31] [8] .ret)))
theorem c122:FB 122 []=some (r122,s122):=by kernel_rfl
def r125:RL:=[]
def s125:SCode:=qr [Qm 3 0,Qa 4 3 1,Qa 5 15 4,Qo 6 5,Qc 7 3,Qa 8 4 7,QS 1 8 6] []
theorem c125:FB 125 []=some (r125,s125):=by kernel_rfl
def r167:RL:=[(6,some (true,3)),(7,none),(8,none)]
def s167:SCode:=qR [Qb 3 8 0,qa 6 (.alloc 23 [.int .i64 0,.int .i64 0,.int .i64 0]),Qi 7 0,Qi 8 0] [1,2,3,6] (qs (qR [Qm 12 2,Q1 13 168 12,Qr 14 13] [1,2,3,6,14] (.cond (.t 14) (qR [qa 15 (.build [.int .i64 0,.int .i64 0,.int .i64 0] []),QS 3 6 15,Qi 7 0,Qi 8 1] [6,7,8] .ret) .skip)) (qR [Ql 17 8 3,Qm 18 1,Q2 19 36 17 18,Qm 16 19,Qe 20 0 16,Qe 21 1 16,qa 9 (.alloc 23 [.int .i64 0,.int .i64 0,.int .i64 0]),QS 3 9 20,Qm 10 21] [2,3,6,9,10] (qs (qR [Qm 22 10,Qu 23 .neq 22 0] [2,3,6,9,10,23] (.cond (.t 23) (qR [qa 24 (.build [.int .i64 0,.int .i64 0,.int .i64 0] []),Qm 25 10,QS 3 6 24,Qi 7 0,Qm 8 25] [6,7,8] .ret) .skip)) (qs (.drawT (.step (Qm 28 2) (.step (Qs 30 8 3) (.both (.step (Q0 27 219) (.both (.step (qa 29 (.raw (.index 199 (.tmp 27) (.tmp 28)))) (.both (.step (Ql 31 3 9) (.both (.step (qa 32 (.call (.t 29) [.t 30,.t 31])) (.step (Qm 26 32) (.step (Qe 33 0 26) (.step (Qe 34 1 26) (.step (qa 11 (.alloc 157 [.int .i64 0,.int .i64 0,.int .i64 0,.int .i64 0])) (.step (QS 4 11 33) (.step (Qm 10 34) .done))))))) (.step (qa 11 (.alloc 157 [.int .i64 0,.int .i64 0,.int .i64 0,.int .i64 0])) (.step (qa 32 (.call (.t 29) [.t 30,.t 31])) (.step (Qm 26 32) (.step (Qe 33 0 26) (.step (Qe 34 1 26) (.step (QS 4 11 33) (.step (Qm 10 34) .done))))))))) (.step (qa 11 (.alloc 157 [.int .i64 0,.int .i64 0,.int .i64 0,.int .i64 0])) (.step (Ql 31 3 9) (.step (qa 32 (.call (.t 29) [.t 30,.t 31])) (.step (Qm 26 32) (.step (Qe 33 0 26) (.step (Qe 34 1 26) (.step (QS 4 11 33) (.step (Qm 10 34) .done)))))))))) (.both (.step (Ql 31 3 9) (.both (.step (qa 29 (.raw (.index 199 (.tmp 27) (.tmp 28)))) (.both (.step (qa 32 (.call (.t 29) [.t 30,.t 31])) (.step (Qm 26 32) (.step (Qe 33 0 26) (.step (Qe 34 1 26) (.step (qa 11 (.alloc 157 [.int .i64 0,.int .i64 0,.int .i64 0,.int .i64 0])) (.step (QS 4 11 33) (.step (Qm 10 34) .done))))))) (.step (qa 11 (.alloc 157 [.int .i64 0,.int .i64 0,.int .i64 0,.int .i64 0])) (.step (qa 32 (.call (.t 29) [.t 30,.t 31])) (.step (Qm 26 32) (.step (Qe 33 0 26) (.step (Qe 34 1 26) (.step (QS 4 11 33) (.step (Qm 10 34) .done))))))))) (.step (qa 11 (.alloc 157 [.int .i64 0,.int .i64 0,.int .i64 0,.int .i64 0])) (.step (qa 29 (.raw (.index 199 (.tmp 27) (.tmp 28)))) (.step (qa 32 (.call (.t 29) [.t 30,.t 31])) (.step (Qm 26 32) (.step (Qe 33 0 26) (.step (Qe 34 1 26) (.step (QS 4 11 33) (.step (Qm 10 34) .done)))))))))) (.step (qa 11 (.alloc 157 [.int .i64 0,.int .i64 0,.int .i64 0,.int .i64 0])) (.both (.step (qa 29 (.raw (.index 199 (.tmp 27) (.tmp 28)))) (.step (Ql 31 3 9) (.step (qa 32 (.call (.t 29) [.t 30,.t 31])) (.step (Qm 26 32) (.step (Qe 33 0 26) (.step (Qe 34 1 26) (.step (QS 4 11 33) (.step (Qm 10 34) .done)))))))) (.step (Ql 31 3 9) (.step (qa 29 (.raw (.index 199 (.tmp 27) (.tmp 28)))) (.step (qa 32 (.call (.t 29) [.t 30,.t 31])) (.step (Qm 26 32) (.step (Qe 33 0 26) (.step (Qe 34 1 26) (.step (QS 4 11 33) (.step (Qm 10 34) .done))))))))))))) (.both (.step (Ql 31 3 9) (.both (.step (Q0 27 219) (.both (.step (qa 29 (.raw (.index 199 (.tmp 27) (.tmp 28)))) (.both (.step (qa 32 (.call (.t 29) [.t 30,.t 31])) (.step (Qm 26 32) (.step (Qe 33 0 26) (.step (Qe 34 1 26) (.step (qa 11 (.alloc 157 [.int .i64 0,.int .i64 0,.int .i64 0,.int .i64 0])) (.step (QS 4 11 33) (.step (Qm 10 34) .done))))))) (.step (qa 11 (.alloc 157 [.int .i64 0,.int .i64 0,.int .i64 0,.int .i64 0])) (.step (qa 32 (.call (.t 29) [.t 30,.t 31])) (.step (Qm 26 32) (.step (Qe 33 0 26) (.step (Qe 34 1 26) (.step (QS 4 11 33) (.step (Qm 10 34) .done))))))))) (.step (qa 11 (.alloc 157 [.int .i64 0,.int .i64 0,.int .i64 0,.int .i64 0])) (.step (qa 29 (.raw (.index 199 (.tmp 27) (.tmp 28)))) (.step (qa 32 (.call (.t 29) [.t 30,.t 31])) (.step (Qm 26 32) (.step (Qe 33 0 26) (.step (Qe 34 1 26) (.step (QS 4 11 33) (.step (Qm 10 34) .done)))))))))) (.step (qa 11 (.alloc 157 [.int .i64 0,.int .i64 0,.int .i64 0,.int .i64 0])) (.step (Q0 27 219) (.step (qa 29 (.raw (.index 199 (.tmp 27) (.tmp 28)))) (.step (qa 32 (.call (.t 29) [.t 30,.t 31])) (.step (Qm 26 32) (.step (Qe 33 0 26) (.step (Qe 34 1 26) (.step (QS 4 11 33) (.step (Qm 10 34) .done))))))))))) (.step (qa 11 (.alloc 157 [.int .i64 0,.int .i64 0,.int .i64 0,.int .i64 0])) (.both (.step (Q0 27 219) (.both (.step (qa 29 (.raw (.index 199 (.tmp 27) (.tmp 28)))) (.step (Ql 31 3 9) (.step (qa 32 (.call (.t 29) [.t 30,.t 31])) (.step (Qm 26 32) (.step (Qe 33 0 26) (.step (Qe 34 1 26) (.step (QS 4 11 33) (.step (Qm 10 34) .done)))))))) (.step (Ql 31 3 9) (.step (qa 29 (.raw (.index 199 (.tmp 27) (.tmp 28)))) (.step (qa 32 (.call (.t 29) [.t 30,.t 31])) (.step (Qm 26 32) (.step (Qe 33 0 26) (.step (Qe 34 1 26) (.step (QS 4 11 33) (.step (Qm 10 34) .done)))))))))) (.step (Ql 31 3 9) (.step (Q0 27 219) (.step (qa 29 (.raw (.index 199 (.tmp 27) (.tmp 28)))) (.step (qa 32 (.call (.t 29) [.t 30,.t 31])) (.step (Qm 26 32) (.step (Qe 33 0 26) (.step (Qe 34 1 26) (.step (QS 4 11 33) (.step (Qm 10 34) .done))))))))))))))) [6,10,11]) (qs (qR [Qm 35 10,Qu 36 .neq 35 0] [6,10,11,36] (.cond (.t 36) (qR [qa 37 (.build [.int .i64 0,.int .i64 0,.int .i64 0] []),Qm 38 10,QS 3 6 37,Qi 7 0,Qm 8 38] [6,7,8] .ret) .skip)) (qs (.drawT (.step (Qa 39 0 11) (.step (Qa 41 3 11) (.both (.step (Ql 40 3 39) (.both (.step (Qo 42 41) (.step (QS 3 6 40) (.step (Qm 7 42) (.step (Qi 8 0) .done)))) (.step (QS 3 6 40) (.step (Qo 42 41) (.step (Qm 7 42) (.step (Qi 8 0) .done)))))) (.step (Qo 42 41) (.step (Ql 40 3 39) (.step (QS 3 6 40) (.step (Qm 7 42) (.step (Qi 8 0) .done)))))))) [6,7,8]) .ret))))))
theorem c167:FB 167 [2000003]=some (r167,s167):=by kernel_rfl
def r170:RL:=[(4,some (true,8))]
def s170:SCode:=qR [QB 3 27 8 1,QU 4 27] [0,3,4] (qR [Qm 7 0,Qc 8 7,Qa 9 2 8,Qo 10 9,Qu 11 .add 10 1,Qc 12 7,Qa 13 2 12,QS 1 13 11] [0,3,4] (qs (.drawT (.step (Qm 14 0) (.step (Qc 15 14) (.step (Qa 16 0 15) (.step (Qm 18 0) (.step (Qc 19 18) (.step (Qa 20 1 19) (.step (Qm 22 0) (.step (Qc 23 22) (.step (Qa 24 2 23) (.both (.step (Qo 17 16) (.both (.step (Qo 21 20) (.step (Qo 25 24) (.step (qa 26 (.build [.int .i64 0,.int .i64 0,.int .i64 0] [(0,(1,.t 17)),(1,(1,.t 21)),(2,(1,.t 25))])) (.step (Qa 27 0 3) (.step (QS 3 27 26) .done))))) (.step (Qo 25 24) (.step (Qo 21 20) (.step (qa 26 (.build [.int .i64 0,.int .i64 0,.int .i64 0] [(0,(1,.t 17)),(1,(1,.t 21)),(2,(1,.t 25))])) (.step (Qa 27 0 3) (.step (QS 3 27 26) .done))))))) (.both (.step (Qo 21 20) (.both (.step (Qo 17 16) (.step (Qo 25 24) (.step (qa 26 (.build [.int .i64 0,.int .i64 0,.int .i64 0] [(0,(1,.t 17)),(1,(1,.t 21)),(2,(1,.t 25))])) (.step (Qa 27 0 3) (.step (QS 3 27 26) .done))))) (.step (Qo 25 24) (.step (Qo 17 16) (.step (qa 26 (.build [.int .i64 0,.int .i64 0,.int .i64 0] [(0,(1,.t 17)),(1,(1,.t 21)),(2,(1,.t 25))])) (.step (Qa 27 0 3) (.step (QS 3 27 26) .done))))))) (.step (Qo 25 24) (.both (.step (Qo 17 16) (.step (Qo 21 20) (.step (qa 26 (.build [.int .i64 0,.int .i64 0,.int .i64 0] [(0,(1,.t 17)),(1,(1,.t 21)),(2,(1,.t 25))])) (.step (Qa 27 0 3) (.step (QS 3 27 26) .done))))) (.step (Qo 21 20) (.step (Qo 17 16) (.step (qa 26 (.build [.int .i64 0,.int .i64 0,.int .i64 0] [(0,(1,.t 17)),(1,(1,.t 21)),(2,(1,.t 25))])) (.step (Qa 27 0 3) (.step (QS 3 27 26) .done)))))))))))))))))) [0,3,4]) (qR [Qm 28 0,Qa 29 5 3,Qo 30 29,Q2 31 220 28 30,Qa 32 5 3,QS 1 32 31] [0,3,4] (qR [Qm 33 0,Qa 34 6 3,Qo 35 34,Q2 36 220 33 35,Qa 37 6 3,QS 1 37 36] [0,3,4] (qR [Qa 38 7 3,Qo 39 38,Qn 40 39,qa 41 (.raw (.makeSlice 25 (.tmp 40) (.tmp 40))),Qm 5 41] [0,3,4,5] (qR [Qm 42 5,Qa 43 7 3,Qo 44 43,qa 45 (.raw (.call (.mk (.builtin .copy) #[.tmp 42,.tmp 44] #[25,25])))] [0,3,4,5] (qs (qR [Qm 46 5,Qn 47 46,Qi 48 0] [0,3,4,5,47,48] (qs (.block 0 (.loop (qR [Qv 49 .lss 48 47] [0,3,4,5,47,48,49] (qs (qX 49) (qs (qs (.block 1 (qR [Qm 50 48,Qm 6 50] [0,3,4,5,6,47,48] (qr [Qm 51 5,Qm 52 6,Qm 53 0,Qm 54 5,Qm 55 6,Qx 56 8 54 55,Ql 57 8 56,Q2 58 170 53 57,Qx 59 8 51 52,QS 8 59 58] [0,3,4,5,47,48]))) (qr [] [0,3,4,5,47,48])) (qr [Qu 60 .add 48 1,Qm 48 60] [0,3,4,5,47,48])))))) (qr [] [3,4,5]))) (qR [Qm 61 5,Qa 62 7 3,QS 1 62 61] [3,4] (qR [Ql 63 8 3,QS 8 4 63] [4] .ret)))))))))
theorem c170:FB 170 []=some (r170,s170):=by kernel_rfl
def r173:RL:=[(4,none)]
def s173:SCode:=qR [Qb 2 8 0,Qb 3 3 1,Qz 4] [2,3] (qR [Qz 5] [2,3,5] (qR [Ql 8 8 2,Ql 9 3 3,Q2 10 73 8 9,Qm 6 10] [5,6] (qs (qR [Qm 11 6,Qn 12 11,Qu 13 .sub 12 2,Qm 7 13] [5,6,7] (qs (.block 0 (.loop (qs (qR [Qm 14 7,Qu 15 .geq 14 0] [5,6,7,15] (qX 15)) (qs (qs (.block 1 (qr [Qm 18 5,Qm 19 6,Qm 20 7,Qx 21 8 19 20,Qa 22 0 21,Ql 23 3 22,qa 24 (.buildS 23 3 1 [.int .i64 0,.int .i64 0,.int .i64 0] [(0,.t 23)]),Qw 25 23 3 24 18 24,Qm 5 25] [5,6,7])) (qr [] [5,6,7])) (qr [Qm 16 7,Qu 17 .sub 16 1,Qm 7 17] [5,6,7]))))) (qr [] [5]))) (qR [Qm 26 5,Qm 4 26] [4] .ret))))
theorem c173:FB 173 [2000002,2000003]=some (r173,s173):=by kernel_rfl
def r179:RL:=[(4,none)]
def s179:SCode:=qR [Qb 3 3 1,Qi 4 0] [0,3] (qs (qR [Qm 6 0,Qn 7 6,Qi 8 0] [0,3,7,8] (qs (.block 0 (.loop (qR [Qv 9 .lss 8 7] [0,3,7,8,9] (qs (qX 9) (qs (qs (.block 1 (qR [Qm 10 8,Qm 5 10] [0,3,5,7,8] (qs (.drawL [Qs 11 3 3,Qm 12 0,Qm 13 5,Qx 14 3 12 13,Ql 15 3 14,qa 16 (.eqs false [1,1,1] (.t 11) (.t 15))] [0,3,5,7,8,16]) (.cond (.t 16) (qR [Qm 17 5,Qm 4 17] [4] .ret) .skip)))) (qr [] [0,3,7,8])) (qr [Qu 18 .add 8 1,Qm 8 18] [0,3,7,8])))))) (qr [] []))) (qR [Qi 4 (-1)] [4] .ret))
theorem c179:FB 179 [2000003]=some (r179,s179):=by kernel_rfl
def r185:RL:=[(6,none)]
def s185:SCode:=qR [Qz 6] [0,1,2] (qR [Qm 8 0,Q1 9 223 8,Qm 10 1,Q2 11 222 9 10,Qm 7 11] [2,7] (qs (qs (.block 0 (qR [Qm 13 2,Qu 14 .eql 13 0,Qm 12 14] [2,7,12] (.cond (.t 12) (qR [Qm 15 7,Qm 6 15] [6] .ret) (qR [Qm 17 2,Qm 18 7,Qn 19 18,Qv 20 .gtr 17 19,Qm 16 20] [2,7,16] (.cond (.t 16) (qR [Qz 6] [6] .ret) .skip))))) (qr [] [2,7])) (qR [Qm 21 7,Qm 22 2,Qu 23 .sub 22 1,Qm 24 2,qa 25 (.slice 1 (.t 21) (some (.t 23)) (some (.t 24))),Qm 6 25] [6] .ret)))
theorem c185:FB 185 []=some (r185,s185):=by kernel_rfl
def r188:RL:=[(4,none)]
def s188:SCode:=qR [Qi 4 0] [0,1] (qs (qR [Qm 6 0,Qn 7 6,Qi 8 0] [0,1,7,8] (qs (.block 0 (.loop (qR [Qv 9 .lss 8 7] [0,1,7,8,9] (qs (qX 9) (qs (qs (.block 1 (qR [Qm 10 8,Qm 5 10] [0,1,5,7,8] (qR [Qm 11 1,Qm 12 0,Qm 13 5,Qx 14 8 12 13,Ql 15 8 14,qa 16 (.call (.t 11) [.t 15])] [0,1,5,7,8,16] (.cond (.t 16) (qR [Qm 17 5,Qm 4 17] [4] .ret) .skip)))) (qr [] [0,1,7,8])) (qr [Qu 18 .add 8 1,Qm 8 18] [0,1,7,8])))))) (qr [] []))) (qR [Qi 4 (-1)] [4] .ret))
theorem c188:FB 188 []=some (r188,s188):=by kernel_rfl
def r203:RL:=[]
def s203:SCode:=qR [Qb 2 8 0] [1,2] (qR [Qm 6 1,Ql 7 8 2,qa 8 (.call (.t 6) [.t 7])] [1,2] (qR [Qa 9 7 2,Qo 10 9,Qn 11 10,Qi 12 0] [1,10,11,12] (qs (.block 0 (.loop (qR [Qv 13 .lss 12 11] [1,10,11,12,13] (qs (qX 13) (qs (qs (.block 1 (qR [Qx 14 8 10 12,Ql 15 8 14,QU 5 27,QS 8 5 15] [1,5,10,11,12] (qr [Ql 16 8 5,Qm 17 1,Q2 18 203 16 17] [1,10,11,12]))) (qr [] [1,10,11,12])) (qr [Qu 19 .add 12 1,Qm 12 19] [1,10,11,12])))))) (qr [] []))))
theorem c203:FB 203 [2000002]=some (r203,s203):=by kernel_rfl
def r245:RL:=[(6,some (true,4)),(7,none)]
def s245:SCode:=qR [Qb 3 8 0,Qb 4 3 1,qa 6 (.alloc 157 [.int .i64 0,.int .i64 0,.int .i64 0,.int .i64 0]),Qi 7 0] [2,3,4,6] (qR [Ql 11 8 3,Ql 12 3 4,Q2 13 37 11 12,Qm 10 13,Qe 14 0 10,Qe 15 1 10,QU 8 27,QS 8 8 14,Qm 9 15] [2,4,6,8] (qs (.drawL [Qs 16 3 4,Qm 17 2,Qa 18 7 8,Qo 19 18,Qn 20 19,qa 21 (.call (.t 17) [.t 20]),qa 22 (.build [.int .i64 0,.int .i64 0,.int .i64 0,.int .i64 0] [(0,(3,.t 16)),(3,(1,.t 21))]),QS 4 6 22,Qi 7 0] [6,7]) .ret))
theorem c245:FB 245 [2000003,2000004]=some (r245,s245):=by kernel_rfl
def r248:RL:=[(2,none)]
def s248:SCode:=qR [Qi 2 0] [0] (qR [Qm 3 0,Qm 2 3] [2] .ret)
theorem c248:FB 248 []=some (r248,s248):=by kernel_rfl
def r251:RL:=[(4,some (true,4)),(5,none)]
def s251:SCode:=qR [Qb 2 8 0,Qb 3 3 1,qa 4 (.alloc 157 [.int .i64 0,.int .i64 0,.int .i64 0,.int .i64 0]),Qi 5 0] [2,3,4] (qR [Ql 6 8 2,Ql 7 3 3,qa 8 (.call (.f 250) [.t 6,.t 7,qi 0]),Qe 9 0 8,Qe 10 1 8,QS 4 4 9,Qm 5 10] [4,5] .ret)
theorem c251:FB 251 [2000002,2000003]=some (r251,s251):=by kernel_rfl
end Go.Av
namespace Go.Av
open Go Go.RowKit Go.Proofs List
set_option linter.unusedSimpArgs false
set_option linter.unusedVariables false
theorem U.idss_nil:U.idss []=[]:=by unfold U.idss;rw[U.flats];rfl
theorem U.idss_app (a b:List U):U.idss (a++b)=U.idss a++U.idss b:=by
 induction a with
 |nil=>rw[U.idss_nil];rfl
 |cons x a ih=>rw[cons_append,U.idss_cons,U.idss_cons,ih,append_assoc]
def orW:List U->List U->List U
 |[],q=>q
 |x::p,_=>x::p
def fN (u:U):List U->List U
 |[]=>[]
 |x::p=>u::x::p
theorem orW_nil {p q:List U}:orW p q=[]↔p=[]/\q=[]:=by cases p<;>simp[orW]
theorem mF {u:U} {p:List U}:fN u p=[]↔p=[]:=by cases p<;>simp[fN]
theorem consW_ne {u:U} {p:List U} (h:p≠[]):fN u p=u::p:=by cases p<;>simp_all[fN]
theorem orW_ne {p q:List U} (h:p≠[]):orW p q=p:=by cases p<;>simp_all[orW]
mutual
def U.way (i:Idd):U->List U
 |⟨d,k,l,h,w,ks⟩=>if d=i then [⟨d,k,l,h,w,ks⟩]else fN ⟨d,k,l,h,w,ks⟩ (U.ways i ks)
def U.ways (i:Idd):List U->List U
 |[]=>[]
 |u::us=>orW (U.way i u) (U.ways i us)
end
theorem U.way_eq (i:Idd) (u:U):U.way i u=if u.id=i then [u]else fN u (U.ways i u.kids):=by cases u;rw[U.way]
theorem U.ways_nil (i:Idd):U.ways i []=[]:=by rw[U.ways]
theorem U.ways_cons (i:Idd) (u:U) (us:List U):U.ways i (u::us)=orW (U.way i u) (U.ways i us):=by rw[U.ways]
theorem kr {i:Idd} {us:List U} (h:∀k∈us,(U.way i k=[]↔i∉k.ids)):U.ways i us=[]↔i∉U.idss us:=by
 induction us with
 |nil=>rw[U.ways_nil,U.idss_nil];simp
 |cons u us ih=>
  rw[U.ways_cons,U.idss_cons,orW_nil,mem_append,h u (by simp),ih λk hk=>h k (by simp[hk])]
  simp[not_or]
theorem dI {i:Idd}:∀u:U,U.way i u=[]↔i∉u.ids:=by
 refine U.ind λu ih=>?_
 rw[U.way_eq,U.ids_eq,mem_cons]
 by_cases h:u.id=i
 ·simp[h]
 ·rw[if_neg h,mF,kr ih]
  simp[Ne.symm h]
theorem ways_no {i:Idd} (us:List U):U.ways i us=[]↔i∉U.idss us:=kr λk _=>dI k
theorem ci {i:Idd} {u:U}:U.way i u≠[]↔i∈u.ids:=by rw[Ne,dI];simp
structure Split (i:Idd) (us a:List U) (k:U) (b:List U):Prop where
 eq:us=a++k::b
 mem:i∈k.ids
 left:i∉U.idss a
 right:i∉U.idss b
 nd:k.ids.Nodup
theorem eQ {i:Idd} {us:List U} (hn:(U.idss us).Nodup) (hi:i∈U.idss us):∃a k b,Split i us a k b:=by
 induction us with
 |nil=>rw[U.idss_nil]at hi;cases hi
 |cons u us ih=>
  rw[U.idss_cons]at hn hi
  obtain⟨n1,n2,n3⟩:=nodup_append.1 hn
  by_cases h:i∈u.ids
  ·exact⟨[],u,us,rfl,h,by rw[U.idss_nil];simp,λhr=>n3 i h i hr rfl,n1⟩
  ·obtain⟨a,k,b,e,h1,h2,h3,h4⟩:=ih n2 ((mem_append.1 hi).resolve_left h)
   refine⟨u::a,k,b,by rw[e];rfl,h1,?_,h3,h4⟩
   rw[U.idss_cons,mem_append,not_or]
   exact⟨h,h2⟩
theorem U.nd_kids {u:U} (h:u.ids.Nodup):(U.idss u.kids).Nodup/\u.id∉U.idss u.kids:=by
 rw[U.ids_eq,nodup_cons]at h
 exact⟨h.2,h.1⟩
theorem U.wayInd {i:Idd} {p:U->Prop} (h0:∀u,u.ids.Nodup->u.id=i->p u)
  (h1:∀u a k b,u.ids.Nodup->u.id≠i->Split i u.kids a k b->p k->p u) (u:U) (hn:u.ids.Nodup) (hi:i∈u.ids):p u:=by
 revert hn hi
 refine U.ind (p:=λu=>u.ids.Nodup->i∈u.ids->p u) (λu ih hn hi=>?_) u
 by_cases h:u.id=i
 ·exact h0 u hn h
 ·rw[U.ids_eq,mem_cons]at hi
  obtain⟨a,k,b,s⟩:=eQ (U.nd_kids hn).1 (hi.resolve_left (Ne.symm h))
  exact h1 u a k b hn h s (ih k (by rw[s.eq];simp) s.nd s.mem)
theorem iW (i:Idd) (a b:List U):U.ways i (a++b)=orW (U.ways i a) (U.ways i b):=by
 induction a with
 |nil=>rw[U.ways_nil];rfl
 |cons x a ih=>
  rw[cons_append,U.ways_cons,U.ways_cons,ih]
  cases U.way i x<;>simp[orW]
theorem Split.ways {i:Idd} {us a b:List U} {k:U} (s:Split i us a k b):U.ways i us=U.way i k:=by
 rw[s.eq,iW,(ways_no a).2 s.left,U.ways_cons]
 show orW (U.way i k) _=_
 rw[orW_ne (ci.2 s.mem)]
theorem Split.way {i:Idd} {u:U} {a b:List U} {k:U} (hu:u.id≠i) (s:Split i u.kids a k b):U.way i u=u::U.way i k:=by
 rw[U.way_eq,if_neg hu,s.ways,consW_ne (ci.2 s.mem)]
theorem aO {i:Idd} {u:U} (h:u.id=i):U.way i u=[u]:=by rw[U.way_eq,if_pos h]
/-! ### a unit changed -/
mutual
def U.wth (i:Idd) (f:U->U):U->U
 |⟨d,k,l,h,w,ks⟩=>if d=i then f ⟨d,k,l,h,w,ks⟩else ⟨d,k,l,h,w,U.wths i f ks⟩
def U.wths (i:Idd) (f:U->U):List U->List U
 |[]=>[]
 |u::us=>if U.way i u=[]then u::U.wths i f us else U.wth i f u::us
end
theorem U.wth_eq (i:Idd) (f:U->U) (u:U):U.wth i f u=if u.id=i then f u else {u with kids:=U.wths i f u.kids}:=by cases u;rw[U.wth]
theorem U.wths_nil (i:Idd) (f:U->U):U.wths i f []=[]:=by rw[U.wths]
theorem U.wths_cons (i:Idd) (f:U->U) (u:U) (us:List U):U.wths i f (u::us)=if U.way i u=[]then u::U.wths i f us else U.wth i f u::us:=by rw[U.wths]
theorem wths_no {i:Idd} {f:U->U}:∀{us:List U},i∉U.idss us->U.wths i f us=us
 |[],_=>U.wths_nil i f
 |u::us,h=>by
  rw[U.idss_cons,mem_append,not_or]at h
  rw[U.wths_cons,if_pos ((dI u).2 h.1),wths_no h.2]
theorem wth_no {i:Idd} {f:U->U} {u:U} (h:i∉u.ids):U.wth i f u=u:=by
 rw[U.ids_eq,mem_cons,not_or]at h
 rw[U.wth_eq,if_neg (Ne.symm h.1),wths_no h.2]
 cases u;rfl
theorem oI {i:Idd} {f:U->U} {a b:List U} (h:i∉U.idss a):U.wths i f (a++b)=a++U.wths i f b:=by
 induction a with
 |nil=>rfl
 |cons x a ih=>
  rw[U.idss_cons,mem_append,not_or]at h
  rw[cons_append,U.wths_cons,if_pos ((dI x).2 h.1),ih h.2]
  rfl
theorem Split.wths {i:Idd} {f:U->U} {us a b:List U} {k:U} (s:Split i us a k b):U.wths i f us=a++U.wth i f k::b:=by
 rw[s.eq,oI s.left,U.wths_cons,if_neg (ci.2 s.mem)]
theorem Split.wth {i:Idd} {f:U->U} {u:U} {a b:List U} {k:U} (hu:u.id≠i) (s:Split i u.kids a k b):U.wth i f u={u with kids:=a++U.wth i f k::b}:=by
 rw[U.wth_eq,if_neg hu,s.wths]
theorem aZ {i:Idd} {f:U->U} {u:U} (h:u.id=i):U.wth i f u=f u:=by rw[U.wth_eq,if_pos h]
/-! ### parents -/
def l9 {α:Type} (p:α->Bool):List α->Option Nat
 |[]=>none
 |x::l=>if p x then some 0 else (l9 p l).map (· +1)
theorem gz {α:Type} {p:α->Bool} {a b:List α} {k:α} (ha:∀x∈a,p x=false) (hk:p k=true):l9 p (a++k::b)=some a.length:=by
 induction a with
 |nil=>simp[l9,hk]
 |cons x a ih=>
  rw[cons_append,l9,ha x (by simp),ih λy hy=>ha y (by simp[hy])]
  simp
theorem lg {α:Type} {p:α->Bool} {a:List α} (ha:∀x∈a,p x=false):l9 p a=none:=by
 induction a with
 |nil=>rfl
 |cons x a ih=>rw[l9,ha x (by simp),ih λy hy=>ha y (by simp[hy])];rfl
mutual
def U.par (i:Idd):U->Option (U×Nat×Nat)
 |⟨d,k,l,h,w,ks⟩=>match l9 (λk=>decide (k.id=i)) ks with
  |some j=>some (⟨d,k,l,h,w,ks⟩,0,j)
  |none=>U.pars i ks
def U.pars (i:Idd):List U->Option (U×Nat×Nat)
 |[]=>none
 |u::us=>match U.par i u with
  |some (p,d,j)=>some (p,d+1,j)
  |none=>U.pars i us
end
theorem U.par_eq (i:Idd) (u:U):U.par i u=match l9 (λk=>decide (k.id=i)) u.kids with
  |some j=>some (u,0,j)
  |none=>U.pars i u.kids:=by cases u;rw[U.par]
theorem U.pars_nil (i:Idd):U.pars i []=none:=by rw[U.pars]
theorem U.pars_cons (i:Idd) (u:U) (us:List U):U.pars i (u::us)=match U.par i u with
  |some (p,d,j)=>some (p,d+1,j)
  |none=>U.pars i us:=by rw[U.pars]
theorem iZ {i:Idd} {us:List U} {k:U} (hk:k∈us) (h:i∈k.ids):i∈U.idss us:=by
 induction us with
 |nil=>cases hk
 |cons u us ih=>
  rw[U.idss_cons,mem_append]
  rcases mem_cons.1 hk with rfl|hk
  ·exact .inl h
  ·exact .inr (ih hk)
theorem mR (u:U):u.id∈u.ids:=by rw[U.ids_eq];simp
theorem gv {i:Idd} {us:List U} (h:i∉U.idss us):∀x∈us,decide (x.id=i)=false:=λx hx=>by
 refine decide_eq_false λe=>h (iZ hx ?_)
 rw[←e];exact mR x
theorem pM {i:Idd} {us:List U} (h:∀k∈us,i∉k.ids->U.par i k=none) (hi:i∉U.idss us):U.pars i us=none:=by
 induction us with
 |nil=>rw[U.pars_nil]
 |cons u us ih=>
  rw[U.idss_cons,mem_append,not_or]at hi
  rw[U.pars_cons,h u (by simp) hi.1]
  exact ih (λk hk=>h k (by simp[hk])) hi.2
theorem par_no {i:Idd}:∀u:U,i∉U.idss u.kids->U.par i u=none:=by
 refine U.ind λu ih h=>?_
 rw[U.par_eq,lg (gv h)]
 refine pM (λk hk hi=>ih k hk λhm=>hi ?_) h
 rw[U.ids_eq];exact mem_cons_of_mem _ hm
theorem pars_app {i:Idd} {a b:List U} (h:i∉U.idss a):U.pars i (a++b)=U.pars i b:=by
 induction a with
 |nil=>rfl
 |cons x a ih=>
  rw[U.idss_cons,mem_append,not_or]at h
  rw[cons_append,U.pars_cons,par_no x λhm=>h.1 (by rw[U.ids_eq];exact mem_cons_of_mem _ hm)]
  exact ih h.2
def aN (i:Idd) (u:U):Option (U×Nat×Nat):=match (U.way i u).reverse with
 |_::p::r=>some (p,r.length,(l9 (λk=>!(U.way i k).isEmpty) p.kids).getD 0)
 |_=>none
theorem Split.no_way {i:Idd} {us a b:List U} {k:U} (s:Split i us a k b):l9 (λk=>!(U.way i k).isEmpty) us=some a.length:=by
 rw[s.eq]
 refine gz (λx hx=>?_) ?_
 ·rw[(dI x).2 λh=>s.left (iZ hx h)];rfl
 ·have:=ci.2 s.mem
  cases h:U.way i k with
  |nil=>exact absurd h this
  |cons _ _=>rfl
theorem eF {i:Idd} (u:U) (hn:u.ids.Nodup) (hi:i∈u.ids):U.par i u=aN i u:=by
 refine U.wayInd (i:=i) (p:=λu=>U.par i u=aN i u) ?_ ?_ u hn hi
 ·intro u hn h
  have:=(U.nd_kids hn).2
  rw[h]at this
  unfold aN
  rw[aO h,par_no u this]
  rfl
 ·intro u a k b _ h s ih
  unfold aN at ih ⊢
  rw[s.way h,U.par_eq]
  by_cases hk:k.id=i
  ·have e:l9 (λk=>decide (k.id=i)) u.kids=some a.length:=by
    rw[s.eq]
    exact gz (gv s.left) (decide_eq_true hk)
   have e2:=s.no_way
   rw[e,aO hk]
   simp[e2]
  ·have e:l9 (λk=>decide (k.id=i)) u.kids=none:=by
    rw[s.eq]
    refine lg λx hx=>?_
    rcases mem_append.1 hx with hx|hx
    ·exact gv s.left x hx
    ·rcases mem_cons.1 hx with rfl|hx
     ·exact decide_eq_false hk
     ·exact gv s.right x hx
   have hkn:i∈U.idss k.kids:=by
    have:=s.mem
    rw[U.ids_eq,mem_cons]at this
    exact this.resolve_left (Ne.symm hk)
   obtain⟨a2,k2,b2,s2⟩:=eQ (U.nd_kids s.nd).1 hkn
   rw[e]
   simp only
   rw[s.eq,pars_app s.left,U.pars_cons,ih,s2.way hk]
   have hne:U.way i k2≠[]:=ci.2 s2.mem
   obtain⟨l,y,hl⟩:∃l y,U.way i k2=l++[y]:=⟨_,_,(dropLast_concat_getLast hne).symm⟩
   rw[hl]
   simp only[reverse_cons,reverse_append,reverse_nil,nil_append,cons_append,append_assoc]
   cases hr:l.reverse<;>simp
theorem Split.other {i q:Idd} {us a b:List U} {k:U} (s:Split i us a k b) (hn:(U.idss us).Nodup) (hq:q∈k.ids):Split q us a k b:=by
 refine⟨s.eq,hq,?_,?_,s.nd⟩
 ·intro h
  rw[s.eq,U.idss_app,U.idss_cons]at hn
  exact(nodup_append.1 hn).2.2 q h q (mem_append.2 (.inl hq)) rfl
 ·intro h
  rw[s.eq,U.idss_app,U.idss_cons]at hn
  exact(nodup_append.1 (nodup_append.1 hn).2.1).2.2 q hq q h rfl
theorem Split.ne {i q:Idd} {u k:U} {a b:List U} (hn:u.ids.Nodup) (s:Split i u.kids a k b) (hq:q∈k.ids):u.id≠q:=λe=>by
 refine(U.nd_kids hn).2 ?_
 rw[e,s.eq,U.idss_app,U.idss_cons]
 exact mem_append.2 (.inr (mem_append.2 (.inl hq)))
theorem cB {i:Idd} {u:U} (h:u.id=i):aN i u=none:=by unfold aN;rw[aO h];rfl
theorem lA {i:Idd} {u k:U} {a b:List U} (h:u.id≠i) (s:Split i u.kids a k b) (hk:k.id=i):aN i u=some (u,0,a.length):=by
 unfold aN
 rw[s.way h,aO hk]
 simp[s.no_way]
theorem jQ {i:Idd} {u k:U} {a b:List U} (h:u.id≠i) (s:Split i u.kids a k b) (hk:k.id≠i):aN i u=(aN i k).map λq=>(q.1,q.2.1+1,q.2.2):=by
 have hkn:i∈U.idss k.kids:=by
  have:=s.mem
  rw[U.ids_eq,mem_cons]at this
  exact this.resolve_left (Ne.symm hk)
 obtain⟨a2,k2,b2,s2⟩:=eQ (U.nd_kids s.nd).1 hkn
 unfold aN
 rw[s.way h,s2.way hk]
 have hne:U.way i k2≠[]:=ci.2 s2.mem
 obtain⟨l,y,hl⟩:∃l y,U.way i k2=l++[y]:=⟨_,_,(dropLast_concat_getLast hne).symm⟩
 rw[hl]
 simp only[reverse_cons,reverse_append,reverse_nil,nil_append,cons_append,append_assoc]
 cases hr:l.reverse<;>simp
structure Par (i:Idd) (u p:U) (d j:Nat):Prop where
 path:U.way i u=U.way p.id u++[(U.way i u).getLastD p]
 deep:(U.way p.id u).length=d+1
 last:(U.way p.id u).getLast?=some p
 mem:p.id∈u.ids
 ne:u.id≠i
 nd:p.ids.Nodup
 split:∃a k b,Split i p.kids a k b/\k.id=i/\j=a.length/\(U.way i u).getLast?=some k
theorem eW {i:Idd} (u:U) (hn:u.ids.Nodup) (hi:i∈u.ids):∀{p d j},aN i u=some (p,d,j)->Par i u p d j:=by
 refine U.wayInd (i:=i) (p:=λu=>∀{p d j},aN i u=some (p,d,j)->Par i u p d j) ?_ ?_ u hn hi
 ·intro u _ h p d j e
  rw[cB h]at e;cases e
 ·intro u a k b hn h s ih p d j e
  by_cases hk:k.id=i
  ·rw[lA h s hk]at e
   injection e with e
   injection e with e1 e2
   injection e2 with e2 e3
   subst e1 e2 e3
   have hw:U.way i u=[u,k]:=by rw[s.way h,aO hk]
   refine⟨?_,?_,?_,mR u,h,hn,a,k,b,s,hk,rfl,?_⟩
   ·rw[hw,aO rfl];rfl
   ·rw[aO rfl];rfl
   ·rw[aO rfl];rfl
   ·rw[hw];rfl
  ·rw[jQ h s hk]at e
   obtain⟨⟨p',d',j'⟩,e',e2⟩:=Option.map_eq_some_iff.1 e
   injection e2 with e1 e2
   injection e2 with e2 e3
   subst e1 e2 e3
   obtain⟨h1,h2,h3,h4,h5,h6,a',k',b',s',hk',hj,hl⟩:=ih e'
   have sp:=s.other (U.nd_kids hn).1 h4
   have hu:=Split.ne hn s h4
   have hwne:U.way i k≠[]:=ci.2 s.mem
   have hpne:U.way p'.id k≠[]:=ci.2 h4
   refine⟨?_,?_,?_,?_,h,h6,a',k',b',s',hk',hj,?_⟩
   ·rw[s.way h,sp.way hu,h1]
    simp[getLastD_cons,getLast?_cons]
   ·rw[sp.way hu,length_cons,h2]
   ·rw[sp.way hu,getLast?_cons,h3];rfl
   ·rw[U.ids_eq]
    refine mem_cons_of_mem _ ?_
    rw[s.eq,U.idss_app,U.idss_cons]
    exact mem_append.2 (.inr (mem_append.2 (.inl h4)))
   ·rw[s.way h,getLast?_cons,hl];rfl
/-! ### a way in a tree of which one unit was changed -/
theorem orW_map (g:U->U) (p q:List U):(orW p q).map g=orW (p.map g) (q.map g):=by cases p<;>simp[orW]
theorem mi (g:U->U) (u:U) (p:List U):(fN u p).map g=fN (g u) (p.map g):=by cases p<;>simp[fN]
theorem j0 {t:Idd} {us:List U} (h:∀k∈us,∀v∈U.way t k,∀q∈v.ids,q∈k.ids):∀v∈U.ways t us,∀q∈v.ids,q∈U.idss us:=by
 induction us with
 |nil=>intro v hv;rw[U.ways_nil]at hv;cases hv
 |cons u us ih=>
  intro v hv q hq
  rw[U.ways_cons]at hv
  rw[U.idss_cons,mem_append]
  cases hw:U.way t u with
  |nil=>
   rw[hw]at hv
   exact .inr (ih (λk hk=>h k (by simp[hk])) v hv q hq)
  |cons x l=>
   rw[hw]at hv
   exact .inl (h u (by simp) v (by rw[hw];exact hv) q hq)
theorem ke {t:Idd}:∀u:U,∀v∈U.way t u,∀q∈v.ids,q∈u.ids:=by
 refine U.ind λu ih v hv q hq=>?_
 rw[U.way_eq]at hv
 split at hv
 ·simp only[mem_singleton]at hv;subst hv;exact hq
 ·cases hw:U.ways t u.kids with
  |nil=>rw[hw]at hv;cases hv
  |cons x l=>
   rw[hw]at hv
   rcases mem_cons.1 hv with rfl|hv
   ·exact hq
   ·rw[U.ids_eq]
    exact mem_cons_of_mem _ (j0 ih v (by rw[hw];exact hv) q hq)
theorem map_no {j t:Idd} {f:U->U} {us:List U} (h:j∉U.idss us):(U.ways t us).map (U.wth j f)=U.ways t us:=by
 conv=>rhs;rw[←map_id (U.ways t us)]
 refine map_congr_left λv hv=>?_
 exact wth_no λhq=>h (j0 (λk _=>ke k) v hv j hq)
theorem map_no1 {j t:Idd} {f:U->U} {u:U} (h:j∉u.ids):(U.way t u).map (U.wth j f)=U.way t u:=by
 conv=>rhs;rw[←map_id (U.way t u)]
 refine map_congr_left λv hv=>?_
 exact wth_no λhq=>h (ke u v hv j hq)
theorem gB {us:List U} {k y:U} (hk:k∈us) (hy:y∈k.flat):y∈U.flats us:=by
 induction us with
 |nil=>cases hk
 |cons u us ih=>
  rw[U.flats,mem_append]
  rcases mem_cons.1 hk with rfl|hk
  ·exact .inl hy
  ·exact .inr (ih hk)
theorem nn {j t:Idd} {f:U->U} {us:List U} (hn:(U.idss us).Nodup) (h:∀k∈us,k.ids.Nodup->U.way t (U.wth j f k)=(U.way t k).map (U.wth j f)):U.ways t (U.wths j f us)=(U.ways t us).map (U.wth j f):=by
 induction us with
 |nil=>rw[U.wths_nil,U.ways_nil];rfl
 |cons u us ih=>
  rw[U.idss_cons]at hn
  obtain⟨n1,n2,n3⟩:=nodup_append.1 hn
  rw[U.wths_cons,U.ways_cons,orW_map]
  split
  ·rename_i hw
   rw[U.ways_cons,ih n2 λk hk=>h k (by simp[hk]),map_no1 ((dI u).1 hw)]
  ·rename_i hw
   have hj:=ci.1 hw
   rw[U.ways_cons,h u (by simp) n1,map_no λhm=>n3 j hj j hm rfl]
theorem way_wth {j t:Idd} {f:U->U}:∀u:U,u.ids.Nodup->(∀y∈u.flat,y.id=j->(f y).id=y.id/\U.ways t (f y).kids=U.ways t y.kids)->U.way t (U.wth j f u)=(U.way t u).map (U.wth j f):=by
 refine U.ind λu ih hn hf=>?_
 obtain⟨n1,n2⟩:=U.nd_kids hn
 by_cases hj:u.id=j
 ·obtain⟨f1,f2⟩:=hf u (by rw[U.flat_eq];simp) hj
  rw[aZ hj,U.way_eq,U.way_eq,f1]
  split
  ·simp[aZ hj]
  ·rw[f2,mi,aZ hj,map_no (by rw[←hj];exact n2)]
 ·rw[U.wth_eq,if_neg hj,U.way_eq,U.way_eq]
  simp only
  split
  ·simp only[map_cons,map_nil]
   rw[U.wth_eq,if_neg hj]
  ·rw[mi,nn n1 λk hk hnk=>ih k hk hnk λy hy=>hf y (by rw[U.flat_eq];exact mem_cons_of_mem _ (gB hk hy))]
   rw[U.wth_eq,if_neg hj]
end Go.Av
