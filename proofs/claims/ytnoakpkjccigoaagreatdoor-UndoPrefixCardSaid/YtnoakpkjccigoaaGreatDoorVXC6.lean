/-
  THE TRANSLATED CODE. Printed by mkcode2.py.
-/
import Derived.Test.YtnoakpkjccigoaaGreatDoorVXOpenGtoXCS
import Derived.Test.YtnoakpkjccigoaaGreatDoorVXAv24toXAv26
import Derived.Test.YtnoakpkjccigoaaGreatDoorProg
namespace Go.Av
open Go List
set_option linter.unusedSimpArgs false
set_option linter.unusedVariables false
abbrev Ze8:SOper:=qa 11 (.buildS 27 8 1 zU [(0,.t 10)])
abbrev Ze4:DT:=.step (Q3 12 155 8 9 11) (.step (Qc 13 4) (.step (Qa 14 7 13) (.step (QS 1 14 12) .done)))
abbrev Ze59:DT:=.step Ze8 Ze4
abbrev Ze58:SOper:=qc 12 9 (.call (.f 124) [.t 10,.t 11])
abbrev Ze57:SOper:=Q2 85 119 83 84
abbrev Ze56:List SOper:=[qa 2 (.mov (.c (.str [])))]
abbrev Ze55:SOper:=qa 12 (.buildS 27 8 1 zU [(0,.c (.agg zU))])
abbrev Ze34:DT:=.step (Q3 12 155 7 8 11) (.step (Qa 13 7 3) (.step (QS 1 13 12) .done))
abbrev Ze3:DT:=.step Ze8 Ze34
abbrev Ze38:DT:=.step (Q1 10 116 9) Ze3
abbrev Ze11:DT:=.both (.step (Qo 8 1) Ze38) (.step (Q1 10 116 9) (.both (.step (Qo 8 1) Ze3) (.step Ze8 (.step (Qo 8 1) Ze34))))
abbrev Ze16:DT:=.step (Q1 7 203 6) Ze38
abbrev Ze54:DT:=.both (.step (Q1 7 203 6) Ze11) (.step (Qo 8 1) Ze16)
abbrev Ze1:DT:=.step (Q3 86 118 81 82 85) (.step (QS 8 8 86) (.step (Qi 9 0) .done))
abbrev Ze7:DT:=.step Ze57 Ze1
abbrev Ze28:DT:=.step (Qo 83 7) Ze7
abbrev Ze13:DT:=.both (.step (Ql 82 3 6) Ze7) (.step Ze57 (.step (Ql 82 3 6) Ze1))
abbrev Ze53:DT:=.both (.step (Ql 82 3 6) Ze28) (.step (Qo 83 7) Ze13)
abbrev Ze52:List SOper:=[Qb 2 8 0,Qb 3 18 1,QU 4 27,Qi 5 0]
abbrev Ze22:DT:=.step (Q1 13 203 12) (.step (QS 1 14 7) (.step (Qa 15 6 1) (.step (QS 1 15 10) (.step (Qa 16 7 1) (.step (QS 1 16 13) .done)))))
abbrev Ze2:DT:=.step (Qa 14 5 1) (.step (Q1 10 86 9) Ze22)
abbrev Ze10:DT:=.both (.step (Q1 10 86 9) (.step (Qo 12 11) (.step (Qa 14 5 1) Ze22))) (.step (Qo 12 11) Ze2)
abbrev Ze25:DT:=.step (Q1 7 86 6) Ze2
abbrev Ze51:DT:=.both (.step (Q1 7 86 6) Ze10) (.step (Qo 12 11) Ze25)
abbrev Ze12:DT:=.both (.step (Ql 81 8 15) Ze7) (.step Ze57 (.step (Ql 81 8 15) Ze1))
abbrev Ze50:DT:=.both (.step (Ql 81 8 15) Ze28) (.step (Qo 83 7) Ze12)
abbrev Ze23:DT:=.step (Ql 84 8 11) Ze7
abbrev Ze49:DT:=.both (.step (Qo 83 7) Ze23) (.step (Ql 84 8 11) Ze28)
abbrev Ze48:SOper:=qc 10 9 (lm 8 1)
abbrev Ze47:SOper:=qc 11 9 (lm 3 2)
abbrev Ze46:SOper:=qc 14 9 (lm 8 3)
abbrev Ze45:DT:=.both (.step (Ql 82 3 6) Ze23) (.step (Ql 84 8 11) Ze13)
abbrev Ze44:DT:=.both (.step (Ql 81 8 15) Ze23) (.step (Ql 84 8 11) Ze12)
abbrev Ze43:SOper:=qa 50 (.raw (.slice 25 (.tmp 46) (some (.tmp 49)) none none))
abbrev Ze42:SOper:=qa 53 (.raw (.slice 25 (.tmp 51) (some (.tmp 52)) none none))
abbrev Ze41:SOper:=qa 73 (.raw (.slice 25 (.tmp 69) (some (.tmp 72)) none none))
abbrev Ze40:SOper:=qa 76 (.raw (.slice 25 (.tmp 74) (some (.tmp 75)) none none))
abbrev Ze39:SOper:=qc 21 19 (.call (.f 148) [.t 20])
abbrev Ze37:DT:=.both (.step (Q1 7 86 6) (.step (Qo 9 8) Ze2)) (.step (Qo 9 8) Ze25)
abbrev Ze36:DT:=.both (.step (Qo 8 7) Ze59) (.step Ze8 (.step (Qo 8 7) Ze4))
abbrev Ze35:DT:=.both (.step (Qo 9 1) Ze59) (.step Ze8 (.step (Qo 9 1) Ze4))
abbrev Ze33:List AV:=[.str [],.int .i64 0,.int .i64 0,.int .i64 0]
abbrev Ze32:List AV:=[.sc .nilFunc,.int .i64 0]
abbrev Ze31:List AV:=[.int .i64 0,.int .i64 0,.int .i64 0,.int .i64 0]
abbrev Ze30:DT:=.step (qa 54 (.raw (.call (.mk (.builtin .copy) #[.tmp 50,.tmp 53] #[25,25])))) .done
abbrev Ze29:DT:=.step (qa 77 (.raw (.call (.mk (.builtin .copy) #[.tmp 73,.tmp 76] #[25,25])))) .done
abbrev Ze27:DT:=.step (Qx 30 8 26 27) (.step (QS 8 30 29) .done)
abbrev Ze26:DT:=.both (.step (Q1 7 203 6) (.step (Ql 9 8 2) Ze38)) (.step (Ql 9 8 2) Ze16)
abbrev Ze24:SOper:=qa 50 (.raw (.lookup 92 (.tmp 46) (.tmp 49) false))
abbrev Ze14:DT:=.step (qc 23 19 (.call (.f 148) [.t 22])) (.step (qc 24 19 (.bin .add (.t 21) (.t 23))) (.step (qc 25 19 (.bin .gtr (.t 24) (qi 1024))) (.step (Qq 26 19 25) (.step (Qm 4 26) .done))))
abbrev Ze0:DT:=.step (qc 15 9 (.call (.f 125) [.t 14])) (.step (qc 16 9 (.bin .add (.t 13) (.t 15))) (.step (qc 17 9 (.bin .gtr (.t 16) (qi 8))) (.step (Qq 18 9 17) (.step (Qm 19 18) (.both (.step (qc 20 19 (lm 8 1)) (.both (.step Ze39 (.step (qc 22 19 (lm 8 3)) Ze14)) (.step (qc 22 19 (lm 8 3)) (.step Ze39 Ze14)))) (.step (qc 22 19 (lm 8 3)) (.step (qc 20 19 (lm 8 1)) (.step Ze39 Ze14))))))))
abbrev Ze9:DT:=.step Ze58 (.step (qc 13 9 (.bin .add (.t 12) (qi 1))) Ze0)
abbrev Ze21:DT:=.both (.step Ze58 (.step (qc 13 9 (.bin .add (.t 12) (qi 1))) (.step Ze46 Ze0))) (.step Ze46 Ze9)
abbrev Ze20:DT:=.step (qc 63 59 (.call (.f 148) [.t 62])) (.step (qc 64 59 (.bin .add (.t 61) (.t 63))) (.step (qc 65 59 (.bin .gtr (.t 64) (qi 1024))) (.step (Qq 66 59 65) .done)))
abbrev Ze19:DT:=.step (qa 53 (.call (.t 50) [.t 51,.t 52])) (.step (QS 18 4 53) (.step (Qi 5 0) .done))
abbrev Ze18:DT:=.both (.step (Ql 81 8 15) Ze13) (.both (.step (Ql 82 3 6) Ze12) (.step Ze57 (.both (.step (Ql 81 8 15) (.step (Ql 82 3 6) Ze1)) (.step (Ql 82 3 6) (.step (Ql 81 8 15) Ze1)))))
abbrev Ze17:DT:=.step (qa 13 (.raw (.call (.mk (.builtin .append) #[.tmp 9,.tmp 12] #[25,25])))) (.step (Qx 14 8 13 11) (.both (.step (QS 8 14 10) (.step (QS 1 2 13) .done)) (.step (QS 1 2 13) (.step (QS 8 14 10) .done))))
abbrev Ze15:List AV:=[.int .i64 0,.int .i64 0,.int .i64 0]
abbrev Ze6:DT:=.step (qc 57 53 (.call (.f 147) [.t 54,.t 55,.t 56])) (.step (Qq 58 53 57) (.step (Qm 59 58) (.step (qc 60 59 (.loadF true 8 (.t 3))) (.both (.step (qc 61 59 (.call (.f 148) [.t 60])) (.step (qc 62 59 (lm 8 13)) Ze20)) (.step (qc 62 59 (lm 8 13)) (.step (qc 61 59 (.call (.f 148) [.t 60])) Ze20))))))
abbrev Ze5:List AV:=[.int .i64 0,.int .i64 0,.int .i64 0,.int .i64 0,.int .i64 0,.int .i64 0,.int .i64 0,.int .i64 0,.int .i64 0,.int .i64 0,.int .i64 0,.int .i64 0,.str [],.nil,.nil,.nil,.str [],.nil]
def r8:RL:=[(4,none)]
def s8:SCode:=qR [Qb 2 8 0,Qf 4] [1,2] (qs (qR [Ql 14 8 2,Qm 15 1,Q2 16 13 14 15,Qr 17 16] [1,2,17] (.cond (.t 17) (qR [Q0 18 10,Qm 4 18] [4] .ret) .skip)) (qR [Ql 20 8 2,Qm 21 1,Q2 22 19 20 21,Qm 19 22,Qe 23 0 19,Qe 24 1 19,QU 5 27,QS 8 5 23,Qm 6 24] [1,2,5,6] (qR [Ql 26 8 2,Qm 27 1,Q2 28 22 26 27,Qm 25 28,Qe 29 0 25,Qe 30 1 25,QU 7 27,QS 8 7 29,Qm 8 30] [1,2,5,6,7,8] (qR [Qi 9 0] [1,2,5,6,7,8,9] (qs (qR [Qm 31 1,Qn 32 31,Qi 33 0] [2,5,6,7,8,9,31,32,33] (qs (.block 0 (.loop (qR [Qv 34 .lss 33 32] [2,5,6,7,8,9,31,32,33,34] (qs (qX 34) (qs (qs (.block 1 (qR [Qx 35 28 31 33,Ql 36 28 35,qa 11 (.alloc 54 [.int .i64 0,.int .i64 0,.int .i64 0,.int .i64 0,.nil,.nil,.int .i64 0,.int .i64 0,.int .i64 0,.int .i64 0,.int .i64 0,.int .i64 0,.str [],.nil,.nil,.nil,.nil,.nil,.str [],.str [],.int .i64 0,.int .i64 0,.str [],.int .i64 0,.int .i64 0,.int .i64 0,.str [],.nil]),QS 28 11 36] [2,5,6,7,8,9,11,31,32,33] (qR [Qa 37 3 11,Qa 38 0 37,Qo 39 38,Q1 40 23 39] [2,5,6,7,8,9,31,32,33,40] (.cond (.t 40) (qr [Qm 41 9,Qu 42 .add 41 1,Qm 9 42] [2,5,6,7,8,9,31,32,33]) .skip)))) (qr [] [2,5,6,7,8,9,31,32,33])) (qr [Qu 43 .add 33 1,Qm 33 43] [2,5,6,7,8,9,31,32,33])))))) (qr [] [2,5,6,7,8,9]))) (qs (qR [Ql 44 8 5,Ql 45 8 7,Q2 46 16 44 45,Qr 47 46,Qm 48 47,Ym 49 48 6,qc 50 48 (.len (.t 49)),Ym 51 48 8,qc 52 48 (.len (.t 51)),qc 53 48 (.bin .add (.t 50) (.t 52)),Ym 54 48 9,qc 55 48 (.bin .neq (.t 53) (.t 54)),Qq 56 48 55] [2,5,6,56] (.cond (.t 56) (qR [Qf 4] [4] .ret) .skip)) (qR [Ql 58 8 5,Qm 59 6,Q2 60 20 58 59,Qm 57 60,Qe 61 0 57,Qe 62 1 57,QU 12 27,QS 8 12 61,Qm 13 62] [2,12,13] (qR [Qm 63 13,Qu 64 .eql 63 0,Qm 65 64,qb 66 65 (lm 8 12),qb 67 65 (lm 8 2),qb 68 65 (.call (.f 16) [.t 66,.t 67]),Qp 69 65 68,Qm 70 69,qb 71 70 (.call (.f 10) []),Qp 72 70 71,Qm 4 72] [4] .ret))))))))
theorem c8:FB 8 [2000002]=some (r8,s8):=by kernel_rfl
def r11:RL:=[(2,none)]
def s11:SCode:=qR [Qb 1 18 0,qa 2 (.mov (.c (.str [])))] [1] (qs (qR [Qa 3 0 1,Qo 4 3] [1,4] (qs (.block 0 (qR [Qu 6 .eql 4 0,Qm 5 6] [1,4,5] (.cond (.t 5) (qR [Qa 7 2 1,Ql 8 3 7,Q1 9 27 8,qa 10 (.bin .add (.c (.str [105,110,115,101,114,116,101,100,32])) (.t 9)),Qm 2 10] [2] .ret) (qR [Qu 12 .eql 4 1,Qm 11 12] [1,4,11] (.cond (.t 11) (qR [Ql 13 18 1,Q1 14 28 13,qa 15 (.bin .add (.c (.str [114,101,109,111,118,101,100,32])) (.t 14)),Qm 2 15] [2] .ret) (qR [Qu 17 .eql 4 2,Qm 16 17] [1,4,16] (.cond (.t 16) (qR [Ql 18 18 1,Q1 19 28 18,qa 20 (.bin .add (.c (.str [109,111,118,101,100,32])) (.t 19)),Qm 2 20] [2] .ret) (qR [Qu 22 .eql 4 3,Qm 21 22] [1,4,21] (.cond (.t 21) (qs (.drawL [Qa 23 2 1,Qs 24 3 23,Qa 28 16 1,qa 29 (.loadF false 1 (.t 28)),Q1 25 27 24,qa 26 (.bin .add (.c (.str [108,97,98,101,108,32])) (.t 25)),qa 27 (.bin .add (.t 26) (.c (.str [32,119,97,115,32]))),Qv 30 .add 27 29,Qm 2 30] [2]) .ret) (qR [Qu 32 .eql 4 4,Qm 31 32] [1,4,31] (.cond (.t 31) (qs (.drawL [Qa 33 2 1,Qs 34 3 33,Qa 38 17 1,qa 39 (.loadF false 1 (.t 38)),Q1 35 27 34,qa 36 (.bin .add (.c (.str [119,111,114,100,115,32])) (.t 35)),qa 37 (.bin .add (.t 36) (.c (.str [32,119,101,114,101]))),Q1 40 29 39,Qv 41 .add 37 40,Qm 2 41] [2]) .ret) (qR [Qu 43 .eql 4 5,Qm 42 43] [1,42] (.cond (.t 42) (qs (.drawL [Qa 44 2 1,Qs 45 3 44,Qa 49 17 1,qa 50 (.loadF false 1 (.t 49)),Q1 46 27 45,qa 47 (.bin .add (.c (.str [104,101,97,100,105,110,103,32])) (.t 46)),qa 48 (.bin .add (.t 47) (.c (.str [32,119,97,115]))),Q1 51 29 50,Qv 52 .add 48 51,Qm 2 52] [2]) .ret) .skip))))))))))))) (qr [] []))) (qR Ze56 [2] .ret))
theorem c11:FB 11 [2000001]=some (r11,s11):=by kernel_rfl
def r14:RL:=[(4,some (true,8)),(5,none)]
def s14:SCode:=qR Ze52 [2,3,4] (qs (.drawL [Qa 8 0 3,qa 9 (.loadF false 1 (.t 8)),Q0 7 36,qa 10 (.raw (.lookup 78 (.tmp 7) (.tmp 9) false)),Qm 6 10] [2,3,4,6]) (qs (qR [Qm 11 6,qa 12 (.eqnil 2 false (.t 11))] [2,3,4,6,12] (.cond (.t 12) (qR [QA 13,QS 8 4 13,Qi 5 1] [4,5] .ret) .skip)) (qR [Qm 14 6,Ql 15 8 2,Ql 16 18 3,qa 17 (.call (.t 14) [.t 15,.t 16]),Qe 18 0 17,Qe 19 1 17,QS 8 4 18,Qm 5 19] [4,5] .ret)))
theorem c14:FB 14 [2000002,2000003]=some (r14,s14):=by kernel_rfl
def r17:RL:=[(4,some (true,18)),(5,none)]
def s17:SCode:=qR [Qb 2 8 0,Qb 3 28 1,qa 4 (.alloc 29 Ze5),Qi 5 0] [2,3,4] (qs (qR [Ql 13 8 2,Ql 14 28 3,Q2 15 18 13 14,Qm 12 15,Qe 16 0 12,Qe 17 1 12,QU 6 27,QS 8 6 16,Qm 7 17] [2,3,4,7] (qR [Qm 18 7,Qu 19 .neq 18 0] [2,3,4,7,19] (.cond (.t 19) (qR [qa 20 (.build Ze5 []),Qm 21 7,QS 18 4 20,Qm 5 21] [4,5] .ret) .skip))) (qs (qR [Qa 22 3 3,Qa 23 0 22,Qo 24 23,Qu 25 .eql 24 0] [2,3,4,25] (.cond (.t 25) (qR [Qa 26 0 3,Qo 27 26,Qa 28 1 3,Qo 29 28,qa 30 (.build Ze15 [(0,(1,.t 27)),(1,(1,.t 29)),(2,(1,qi 1))]),qa 31 (.build Ze5 [(0,(1,qi 0)),(2,(3,.t 30))]),QS 18 4 31,Qi 5 0] [4,5] .ret) .skip)) (qR [Ql 33 8 2,Qa 34 3 3,Qa 35 1 34,Qo 36 35,Q2 37 43 33 36,Qm 32 37,Qe 38 0 32,Qe 39 1 32,qa 8 (.alloc 23 Ze15),QS 3 8 38,Qm 9 39] [2,3,4,8] (qR [Ql 41 8 2,Ql 42 3 8,Q2 43 44 41 42,Qm 40 43,Qe 44 0 40,Qe 45 1 40,QU 10 27,QS 8 10 44,Qm 11 45] [2,3,4,10] (qs (.drawT (.step (Qa 47 3 3) (.step (Qa 48 0 47) (.step (qa 49 (.loadF false 1 (.t 48))) (.step (Qs 51 8 2) (.both (.step (Q0 46 45) (.both (.step Ze24 (.step (Ql 52 8 10) Ze19)) (.step (Ql 52 8 10) (.step Ze24 Ze19)))) (.step (Ql 52 8 10) (.step (Q0 46 45) (.step Ze24 Ze19)))))))) [4,5]) .ret)))))
theorem c17:FB 17 [2000002,2000003]=some (r17,s17):=by kernel_rfl
def r23:RL:=[(2,none)]
def s23:SCode:=qR [Qf 2] [0] (qR [Qm 3 0,Qu 4 .geq 3 0,Qm 5 4,Bm 6 5 0,qb 7 5 (.bin .leq (.t 6) (qi 6)),Qp 8 5 7,Qm 2 8] [2] .ret)
theorem c23:FB 23 []=some (r23,s23):=by kernel_rfl
def r26:RL:=[(0,some (true,8))]
def s26:SCode:=qR [QU 0 27] [0] (qR [qa 1 (.build zU [(3,(1,qi 0))]),QS 8 0 1] [0] .ret)
theorem c26:FB 26 []=some (r26,s26):=by kernel_rfl
def r29:RL:=[(2,none)]
def s29:SCode:=qR Ze56 [0] (qR [qa 3 (.alloc 109 [.sc (.pointer none),.nil])] [0,3] (qs (qR [Qm 6 0,Qn 7 6,Qi 8 0] [3,6,7,8] (qs (.block 0 (.loop (qR [Qv 9 .lss 8 7] [3,6,7,8,9] (qs (qX 9) (qs (qs (.block 1 (qR [Qx 10 4 6 8,Ql 11 4 10,qa 5 (.alloc 33 Ze33),QS 4 5 11] [3,5,6,7,8] (qr [Qa 12 0 5,Qo 13 12,qa 14 (.bin .add (.c (.str [32])) (.t 13)),Q2 15 52 3 14] [3,6,7,8]))) (qr [] [3,6,7,8])) (qr [Qu 16 .add 8 1,Qm 8 16] [3,6,7,8])))))) (qr [] [3]))) (qR [Q1 17 53 3,Qm 2 17] [2] .ret)))
theorem c29:FB 29 []=some (r29,s29):=by kernel_rfl
def r32:RL:=[(2,none)]
def s32:SCode:=qR Ze56 [0] (qR [qa 3 (.mov (.c (.str [])))] [0,3] (qs (qR [Qi 4 0] [0,3,4] (qs (.block 0 (.loop (qs (qR [Qm 5 4,Qm 6 0,Qn 7 6,Qv 8 .lss 5 7] [0,3,4,8] (qX 8)) (qs (qs (.block 1 (qr [Qm 11 3,Qm 12 0,Qm 13 4,Qx 14 4 12 13,Qa 15 0 14,Qo 16 15,qa 17 (.bin .add (.c (.str [32])) (.t 16)),Qv 18 .add 11 17,Qm 3 18] [0,3,4])) (qr [] [0,3,4])) (qr [Qm 9 4,Qu 10 .add 9 1,Qm 4 10] [0,3,4]))))) (qr [] [3]))) (qR [Qm 19 3,Qm 2 19] [2] .ret)))
theorem c32:FB 32 []=some (r32,s32):=by kernel_rfl
def r35:RL:=[(4,none)]
def s35:SCode:=qR [Qb 2 8 0,Qf 4] [1,2] (qR [Ql 9 8 2,Q1 10 56 9,Qm 5 10] [1,5] (qs (qR [Qi 6 0] [1,5,6] (qs (.block 0 (.loop (qs (qR [Qm 11 6,Qm 12 1,Qn 13 12,Qv 14 .lss 11 13] [1,5,6,14] (qX 14)) (qs (qs (.block 1 (qs (qR [Qi 7 0] [1,5,6,7] (qs (.block 2 (.loop (qs (qR [Qm 17 7,Qm 18 6,Qv 19 .lss 17 18] [1,5,6,7,19] (.cond (.t 19) .skip (.exit 2))) (qs (qs (.block 3 (qs (.draw [Qm 22 1,Qm 23 7,Qx 24 28 22 23,Qa 25 0 24,Qo 26 25,Qm 27 1,Qm 28 6,Qx 29 28 27 28,Qa 30 0 29,Qo 31 30,Qv 32 .eql 26 31,Qm 33 32,Bm 34 33 1,Bm 35 33 7,qb 36 33 (.indexA 28 (.t 34) (.t 35)),qb 37 33 (fa 1 36),qb 38 33 (lo 37),Bm 39 33 1,Bm 40 33 6,qb 41 33 (.indexA 28 (.t 39) (.t 40)),qb 42 33 (fa 1 41),qb 43 33 (lo 42),qb 44 33 (.bin .eql (.t 38) (.t 43)),Qp 45 33 44] [1,5,6,7,45]) (.cond (.t 45) (qR [Qf 4] [4] .ret) .skip))) (qr [] [1,5,6,7])) (qr [Qm 20 7,Qu 21 .add 20 1,Qm 7 21] [1,5,6,7]))))) (qr [] [1,5,6]))) (qR [Qi 8 0] [1,5,6,8] (qs (.block 4 (.loop (qs (qR [Qm 46 8,Qm 47 5,Qn 48 47,Qv 49 .lss 46 48] [1,5,6,8,49] (.cond (.t 49) .skip (.exit 4))) (qs (qs (.block 5 (qs (.draw [Qm 52 1,Qm 53 6,Qx 54 28 52 53,Qa 55 0 54,Qo 56 55,Qu 57 .lss 56 1,Qm 58 57,Ym 59 58 1,Ym 60 58 6,qc 61 58 (.indexA 28 (.t 59) (.t 60)),qc 62 58 (fa 1 61),qc 63 58 (lo 62),qc 64 58 (.bin .lss (.t 63) (qi 0)),Qq 65 58 64,Qm 66 65,Ym 67 66 5,Ym 68 66 8,qc 69 66 (.indexA 3 (.t 67) (.t 68)),qc 70 66 (fa 0 69),qc 71 66 (lo 70),Ym 72 66 1,Ym 73 66 6,qc 74 66 (.indexA 28 (.t 72) (.t 73)),qc 75 66 (fa 0 74),qc 76 66 (lo 75),qc 77 66 (.bin .eql (.t 71) (.t 76)),Ym 78 66 77,Bm 79 78 5,Bm 80 78 8,qb 81 78 (.indexA 3 (.t 79) (.t 80)),qb 82 78 (fa 1 81),qb 83 78 (lo 82),Bm 84 78 1,Bm 85 78 6,qb 86 78 (.indexA 28 (.t 84) (.t 85)),qb 87 78 (fa 1 86),qb 88 78 (lo 87),qb 89 78 (.bin .eql (.t 83) (.t 88)),qc 90 66 (.pick (.t 78) (.t 89) qf),Qq 91 66 90] [1,5,6,8,91]) (.cond (.t 91) (qR [Qf 4] [4] .ret) .skip))) (qr [] [1,5,6,8])) (qr [Qm 50 8,Qu 51 .add 50 1,Qm 8 51] [1,5,6,8]))))) (qr [] [1,5,6]))))) (qr [] [1,5,6])) (qr [Qm 15 6,Qu 16 .add 15 1,Qm 6 16] [1,5,6]))))) (qr [] []))) (qR [Qt 4] [4] .ret)))
theorem c35:FB 35 [2000002]=some (r35,s35):=by kernel_rfl
def r44:RL:=[(4,some (true,8)),(5,none)]
def s44:SCode:=qR [Qb 2 8 0,Qb 3 3 1,QU 4 27,Qf 5] [2,3,4] (qR [Ql 7 8 2,Ql 8 3 3,Q2 9 83 7 8,Qm 6 9] [4,6] (qs (qR [Qm 10 6,Qn 11 10,Qu 12 .eql 11 0] [4,6,12] (.cond (.t 12) (qR [QA 13,QS 8 4 13,Qf 5] [4,5] .ret) .skip)) (qR [Qm 14 6,Qm 15 6,Qn 16 15,Qu 17 .sub 16 1,Qx 18 8 14 17,Ql 19 8 18,Q1 20 84 19,QS 8 4 20,Qt 5] [4,5] .ret)))
theorem c44:FB 44 [2000002,2000003]=some (r44,s44):=by kernel_rfl
def r59:RL:=[(4,some (true,8)),(5,none)]
def s59:SCode:=qR Ze52 [2,3,4] (qR [Ql 6 8 2,Qa 7 5 3,Ql 8 3 7,Qa 9 1 3,Qo 10 9,Qa 11 8 3,Ql 12 8 11,Q4 13 60 6 8 10 12,Qe 14 0 13,Qe 15 1 13,QS 8 4 14,Qm 5 15] [4,5] .ret)
theorem c59:FB 59 [2000002,2000003]=some (r59,s59):=by kernel_rfl
def r62:RL:=[(8,some (true,8)),(9,none)]
def s62:SCode:=qR [QB 4 27 8 0,QB 5 23 3 1,QB 6 23 3 2,QB 7 3 1 3,QU 8 27,Qi 9 0] [4,5,6,7,8] (qR [qa 19 (.mkfun (.func 120) [] [.t 4]),qa 20 (.build Ze32 [(0,(1,.t 19)),(1,(1,qi 1))]),qa 21 (.mkfun (.func 121) [] [.t 4,.t 5,.t 6]),qa 22 (.build Ze32 [(0,(1,.t 21)),(1,(1,qi 4))]),qa 23 (.buildS 155 2 2 [.sc .nilFunc,.int .i64 0,.sc .nilFunc,.int .i64 0] [(0,.t 20),(1,.t 22)]),Q1 24 109 23,Qm 10 24] [4,5,6,7,8,10] (qs (qR [Qm 25 10,Qu 26 .neq 25 0] [4,5,6,7,8,10,26] (.cond (.t 26) (qR [QA 27,Qm 28 10,QS 8 8 27,Qm 9 28] [8,9] .ret) .skip)) (qR [Ql 30 8 4,Ql 31 3 5,Q2 32 44 30 31,Qm 29 32,Qe 33 0 29,Qe 34 1 29,QU 11 27,QS 8 11 33,Qm 12 34] [4,5,6,7,8,11] (qs (qR [Ql 36 8 4,Ql 37 3 6,Q2 38 44 36 37,Qm 35 38,Qe 39 0 35,Qe 40 1 35,QU 13 27,QS 8 13 39,Qm 14 40] [4,5,6,7,8,11,13] (qR [Ql 41 3 5,Qa 42 0 4,Ql 43 3 42,qa 44 (.eqs false [1,1,1] (.t 41) (.t 43)),Qm 45 44,qc 46 45 (lm 8 11),qc 47 45 (lm 3 6),qc 48 45 (.call (.f 113) [.t 46,.t 47]),Qq 49 45 48,Qm 50 49,qc 51 50 (fa 3 13),qc 52 50 (lo 51),qc 53 50 (fa 3 11),qc 54 50 (lo 53),qc 55 50 (.call (.f 122) [.t 52,.t 54]),qc 56 50 (.not (.t 55)),Qq 57 50 56] [4,5,6,7,8,11,57] (.cond (.t 57) (qR [QA 58,QS 8 8 58,Qi 9 9] [8,9] .ret) .skip))) (qR [Ql 59 8 4,Ql 60 3 5,Q2 61 115 59 60,QU 15 27,QS 8 15 61] [6,7,8,11,15] (qR [Ql 63 8 15,Ql 64 3 6,Q2 65 44 63 64,Qm 62 65,Qe 66 0 62,Qe 67 1 62,QU 16 27,QS 8 16 66,Qm 17 67] [6,7,8,11,15,16] (qR [qa 68 (.mkfun (.func 123) [] [.t 16,.t 15,.t 6,.t 11]),Qm 18 68] [6,7,8,11,15,16,18] (qR [qa 69 (.mkfun (.func 126) [] [.t 7,.t 16]),qa 70 (.build Ze32 [(0,(1,.t 69)),(1,(1,qi 3))]),qa 71 (.mkfun (.func 127) [] [.t 16,.t 11]),qa 72 (.build Ze32 [(0,(1,.t 71)),(1,(1,qi 10))]),Qm 73 18,qa 74 (.build Ze32 [(0,(1,.t 73)),(1,(1,qi 6))]),qa 75 (.buildS 155 2 3 [.sc .nilFunc,.int .i64 0,.sc .nilFunc,.int .i64 0,.sc .nilFunc,.int .i64 0] [(0,.t 70),(1,.t 72),(2,.t 74)]),Q1 76 109 75,Qm 10 76] [6,7,8,10,11,15] (qs (qR [Qm 77 10,Qu 78 .neq 77 0] [6,7,8,10,11,15,78] (.cond (.t 78) (qR [QA 79,Qm 80 10,QS 8 8 79,Qm 9 80] [8,9] .ret) .skip)) (qs (.drawT (.both (.step (Ql 81 8 15) (.both (.step (Ql 82 3 6) Ze49) (.both (.step (Qo 83 7) Ze45) (.step (Ql 84 8 11) Ze53)))) (.both (.step (Ql 82 3 6) (.both (.step (Ql 81 8 15) Ze49) (.both (.step (Qo 83 7) Ze44) (.step (Ql 84 8 11) Ze50)))) (.both (.step (Qo 83 7) (.both (.step (Ql 81 8 15) Ze45) (.both (.step (Ql 82 3 6) Ze44) (.step (Ql 84 8 11) Ze18)))) (.step (Ql 84 8 11) (.both (.step (Ql 81 8 15) Ze53) (.both (.step (Ql 82 3 6) Ze50) (.step (Qo 83 7) Ze18))))))) [8,9]) .ret))))))))))
theorem c62:FB 62 []=some (r62,s62):=by kernel_rfl
def r65:RL:=[(4,some (true,8)),(5,none)]
def s65:SCode:=qR Ze52 [2,3,4] (qR [Ql 6 8 2,Qa 7 2 3,Ql 8 3 7,Qa 9 17 3,Qo 10 9,Q3 11 66 6 8 10,Qe 12 0 11,Qe 13 1 11,QS 8 4 12,Qm 5 13] [4,5] .ret)
theorem c65:FB 65 [2000002,2000003]=some (r65,s65):=by kernel_rfl
def r68:RL:=[(6,some (true,8)),(7,none)]
def s68:SCode:=qR [Qb 3 8 0,Qb 4 3 1,QB 5 24 1 2,QU 6 27,Qi 7 0] [3,4,5,6] (qR [Ql 8 8 3,Ql 9 3 4,Qo 10 5,qa 11 (.mkfun (.func 137) [] [.t 5]),Q4 12 135 8 9 10 11,Qe 13 0 12,Qe 14 1 12,QS 8 6 13,Qm 7 14] [6,7] .ret)
theorem c68:FB 68 [2000003,2000004]=some (r68,s68):=by kernel_rfl
def r83:RL:=[(4,none)]
def s83:SCode:=qR [Qb 2 8 0,Qb 3 3 1,Qz 4] [2,3] (qs (qR [Qa 8 0 2,Ql 9 3 8,Ql 10 3 3,qa 11 (.eqs false [1,1,1] (.t 9) (.t 10))] [2,3,11] (.cond (.t 11) (qR [Ql 12 8 2,qa 13 (.buildS 27 8 1 zU [(0,.t 12)]),Qm 4 13] [4] .ret) .skip)) (qs (qR [Qa 14 7 2,Qo 15 14,Qn 16 15,Qi 17 0] [2,3,15,16,17] (qs (.block 0 (.loop (qR [Qv 18 .lss 17 16] [2,3,15,16,17,18] (qs (qX 18) (qs (qs (.block 1 (qR [Qx 19 8 15 17,Ql 20 8 19,QU 6 27,QS 8 6 20] [2,3,6,15,16,17] (qR [Ql 21 8 6,Ql 22 3 3,Q2 23 83 21 22,Qm 7 23] [2,3,7,15,16,17] (qR [Qm 24 7,qa 25 (.eqnil 0 true (.t 24))] [2,3,7,15,16,17,25] (.cond (.t 25) (qR [Ql 26 8 2,qa 27 (.buildS 27 8 1 zU [(0,.t 26)]),Qm 28 7,Qw 29 27 8 120 27 28,Qm 4 29] [4] .ret) .skip))))) (qr [] [2,3,15,16,17])) (qr [Qu 30 .add 17 1,Qm 17 30] [2,3,15,16,17])))))) (qr [] []))) (qR [Qz 4] [4] .ret)))
theorem c83:FB 83 [2000002,2000003]=some (r83,s83):=by kernel_rfl
def r89:RL:=[(4,some (true,18))]
def s89:SCode:=qR [Qb 2 8 0,Qb 3 8 1,qa 4 (.alloc 29 Ze5)] [2,3,4] (qR [Ql 6 8 2,Qa 7 0 3,Ql 8 3 7,Q2 9 88 6 8,qa 5 (.alloc 29 Ze5),QS 18 5 9] [4,5] (qR [Qa 10 0 5,⟨none,none,.store 1 (.t 10) (qi 2)⟩] [4,5] (qR [Ql 11 18 5,QS 18 4 11] [4] .ret)))
theorem c89:FB 89 [2000002,2000003]=some (r89,s89):=by kernel_rfl
def r92:RL:=[(6,some (true,8)),(7,none)]
def s92:SCode:=qR [Qb 3 8 0,Qb 4 8 1,Qb 5 28 2,QU 6 27,Qi 7 0] [3,5,6] (qR [Ql 17 8 3,Qa 18 3 5,Ql 19 25 18,Q2 20 144 17 19,Qm 16 20,Qe 21 0 16,Qe 22 1 16,Qe 23 2 16,qa 8 (.alloc 23 Ze15),qa 9 (.alloc 3 [.int .i64 0]),QS 3 8 21,QS 1 9 22,Qm 10 23] [3,5,6,8,9,10] (qs (qR [Qm 24 10,Qu 25 .neq 24 0] [3,5,6,8,9,10,25] (.cond (.t 25) (qR [Ql 26 8 3,Qm 27 10,QS 8 6 26,Qm 7 27] [6,7] .ret) .skip)) (qR [Ql 29 8 3,Ql 30 3 8,Q2 31 44 29 30,Qm 28 31,Qe 32 0 28,Qe 33 1 28,QU 11 27,QS 8 11 32,Qm 12 33] [3,5,6,8,9,11] (qR [Qa 34 3 5,Qa 35 5 34,Ql 36 8 35,Qa 37 0 5,Qo 38 37,Qa 39 1 5,Qo 40 39,Q3 41 145 36 38 40,QU 13 27,QS 8 13 41] [3,6,8,9,11,13] (qs (qR [Ql 42 8 11,Ql 43 8 13,Q2 44 146 42 43,Qm 14 44] [3,6,8,9,11,13,14] (qR [Qm 45 14,Qu 46 .neq 45 0] [3,6,8,9,11,13,14,46] (.cond (.t 46) (qR [Ql 47 8 3,Qm 48 14,QS 8 6 47,Qm 7 48] [6,7] .ret) .skip))) (qs (qs (.drawT (.step (Qa 49 7 11) (.step (Qo 50 49) (.step (Qn 51 50) (.step (Qu 52 .geq 51 64) (.step (Qm 53 52) (.step (qc 54 53 (.loadF true 8 (.t 3))) (.both (.step (qc 55 53 (lm 3 8)) (.step (qc 56 53 (lm 8 13)) Ze6)) (.step (qc 56 53 (lm 8 13)) (.step (qc 55 53 (lm 3 8)) Ze6))))))))) [3,6,8,9,13,66]) (.cond (.t 66) (qR [Ql 67 8 3,QS 8 6 67,Qi 7 6] [6,7] .ret) .skip)) (qR [Ql 68 8 3,Q1 69 149 68,qa 15 (.alloc 115 [.nil]),QS 1 15 69] [3,6,8,9,13,15] (qs (qR [Ql 70 8 13,Q1 71 149 70,qa 72 (.mkfun (.func 151) [] [.t 15]),Q2 73 150 71 72] [3,6,8,9,13,73] (.cond (.t 73) (qR [Ql 74 8 3,QS 8 6 74,Qi 7 5] [6,7] .ret) .skip)) (qR [Ql 75 8 3,Ql 76 3 8,qa 77 (.mkfun (.func 154) [] [.t 9,.t 13]),Q3 78 153 75 76 77,QS 8 6 78,Qi 7 0] [6,7] .ret)))))))))
theorem c92:FB 92 [2000003,2000004,2000005]=some (r92,s92):=by kernel_rfl
def r95:RL:=[(6,some (true,8)),(7,none)]
def s95:SCode:=qR [Qb 3 8 0,Qb 4 8 1,Qb 5 28 2,QU 6 27,Qi 7 0] [3,4,5,6] (qR [Qa 11 6 4,Qo 12 11,Qa 13 3 5,Qa 14 13 13,Qo 15 14,Qa 16 3 5,Qa 17 14 16,Qo 18 17,Qa 19 3 5,Qa 20 4 19,Qo 21 20,Qa 22 0 5,Qo 23 22,Qa 24 1 5,Qo 25 24,Q6 26 159 12 15 18 21 23 25,Qm 10 26,Qe 27 0 10,Qe 28 1 10,qa 8 (.alloc 24 [.nil]),QS 1 8 27,Qm 9 28] [3,4,6,8,9] (qs (qR [Qm 29 9,Qu 30 .neq 29 0] [3,4,6,8,9,30] (.cond (.t 30) (qR [Ql 31 8 3,Qm 32 9,QS 8 6 31,Qm 7 32] [6,7] .ret) .skip)) (qR [Ql 33 8 3,Qa 34 0 4,Ql 35 3 34,qa 36 (.mkfun (.func 160) [] [.t 8]),Q3 37 153 33 35 36,QS 8 6 37,Qi 7 0] [6,7] .ret)))
theorem c95:FB 95 [2000003,2000004,2000005]=some (r95,s95):=by kernel_rfl
def r98:RL:=[(6,some (true,8)),(7,none)]
def s98:SCode:=qR [Qb 3 8 0,QB 4 27 8 1,Qb 5 28 2,QU 6 27,Qi 7 0] [3,4,5,6] (qR [Ql 19 8 3,Qa 20 3 5,Ql 21 25 20,Q2 22 144 19 21,Qm 18 22,Qe 23 0 18,Qe 24 1 18,Qe 25 2 18,qa 8 (.alloc 23 Ze15),qa 9 (.alloc 3 [.int .i64 0]),QS 3 8 23,QS 1 9 24,Qm 10 25] [3,4,6,8,9,10] (qs (qR [Qm 26 10,Qu 27 .neq 26 0] [3,4,6,8,9,10,27] (.cond (.t 27) (qR [Ql 28 8 3,Qm 29 10,QS 8 6 28,Qm 7 29] [6,7] .ret) .skip)) (qR [Ql 31 8 3,Qa 32 0 4,Ql 33 3 32,Q2 34 131 31 33,Qm 30 34,Qe 35 0 30,Qe 36 1 30,Qe 37 2 30,qa 11 (.alloc 23 Ze15),QS 3 11 35,Qm 12 36,Qm 13 37] [3,4,6,8,9,11] (qR [Ql 38 8 3,Qa 39 0 4,Ql 40 3 39,Q2 41 156 38 40,QU 14 27,QS 8 14 41] [3,4,6,8,9,11,14] (qR [Ql 43 8 14,Ql 44 3 8,Q2 45 44 43 44,Qm 42 45,Qe 46 0 42,Qe 47 1 42,QU 15 27,QS 8 15 46,Qm 16 47] [3,4,6,8,9,11,14,15] (qs (qR [Ql 48 8 15,Ql 49 8 4,Q2 50 146 48 49,Qm 17 50] [3,4,6,8,9,11,14,15,17] (qR [Qm 51 17,Qu 52 .neq 51 0] [3,4,6,8,9,11,14,15,17,52] (.cond (.t 52) (qR [Ql 53 8 3,Qm 54 17,QS 8 6 53,Qm 7 54] [6,7] .ret) .skip))) (qs (qR [Ql 55 3 8,Ql 56 3 11,qa 57 (.eqs true [1,1,1] (.t 55) (.t 56)),Qm 58 57,qb 59 58 (fa 7 15),qb 60 58 (lo 59),qb 61 58 (.len (.t 60)),qb 62 58 (.bin .geq (.t 61) (qi 64)),Qp 63 58 62,Qm 64 63,qc 65 64 (lm 8 14),qc 66 64 (lm 3 8),qc 67 64 (lm 8 4),qc 68 64 (.call (.f 147) [.t 65,.t 66,.t 67]),Qq 69 64 68] [3,4,6,8,9,14,69] (.cond (.t 69) (qR [Ql 70 8 3,QS 8 6 70,Qi 7 6] [6,7] .ret) .skip)) (qR [Ql 71 8 14,Ql 72 3 8,qa 73 (.mkfun (.func 164) [] [.t 9,.t 4]),Q3 74 153 71 72 73,QS 8 6 74,Qi 7 0] [6,7] .ret))))))))
theorem c98:FB 98 [2000003,2000005]=some (r98,s98):=by kernel_rfl
def r110:RL:=[(1,none)]
def s110:SCode:=qR [Qf 1] [0] (qR [Ql 2 8 0,Q1 3 111 2,Qr 4 3,Qm 1 4] [1] .ret)
theorem c110:FB 110 []=some (r110,s110):=by kernel_rfl
def r113:RL:=[(4,none)]
def s113:SCode:=qR [Qb 2 8 0,Qb 3 3 1,Qf 4] [2,3] (qR [Ql 8 8 2,Ql 9 3 3,Q2 10 44 8 9,Qm 7 10,Qe 11 0 7,Qe 12 1 7,QU 5 27,QS 8 5 11,Qm 6 12] [6] (qR [Qm 13 6,Qm 4 13] [4] .ret))
theorem c113:FB 113 [2000002,2000003]=some (r113,s113):=by kernel_rfl
def r116:RL:=[(2,some (true,8))]
def s116:SCode:=qR [QB 1 27 8 0,QU 2 27] [1,2] (qs (.drawT (.step (Qa 5 5 1) (.step (Qa 8 6 1) (.step (Qa 11 7 1) (.both (.step (Qo 6 5) (.both (.step (Q1 7 86 6) (.both (.step (Qo 9 8) Ze10) (.step (Qo 12 11) (.step (Qo 9 8) Ze2)))) (.both (.step (Qo 9 8) Ze51) (.step (Qo 12 11) Ze37)))) (.both (.step (Qo 9 8) (.both (.step (Qo 6 5) Ze51) (.step (Qo 12 11) (.step (Qo 6 5) Ze25)))) (.step (Qo 12 11) (.both (.step (Qo 6 5) Ze37) (.step (Qo 9 8) (.step (Qo 6 5) Ze25))))))))) [1,2]) (qs (qR [Qa 17 7 1,Qo 18 17,Qn 19 18,Qi 20 0] [1,2,18,19,20] (qs (.block 0 (.loop (qR [Qv 21 .lss 20 19] [1,2,18,19,20,21] (qs (qX 21) (qs (qs (.block 1 (qR [Qm 22 20,Qx 23 8 18 20,Ql 24 8 23,QU 4 27,Qm 3 22,QS 8 4 24] [1,2,3,4,18,19,20] (.drawT (.step (Qa 25 7 1) (.step (Qm 27 3) (.both (.step (Qo 26 25) (.step (Ql 28 8 4) (.step (Q1 29 116 28) Ze27))) (.step (Ql 28 8 4) (.both (.step (Qo 26 25) (.step (Q1 29 116 28) Ze27)) (.step (Q1 29 116 28) (.step (Qo 26 25) Ze27))))))) [1,2,18,19,20]))) (qr [] [1,2,18,19,20])) (qr [Qu 31 .add 20 1,Qm 20 31] [1,2,18,19,20])))))) (qr [] [1,2]))) (qR [Ql 32 8 1,QS 8 2 32] [2] .ret)))
theorem c116:FB 116 []=some (r116,s116):=by kernel_rfl
def r119:RL:=[(4,none)]
def s119:SCode:=qR [QB 2 3 1 0,QB 3 27 8 1,qa 4 (.mov (.c (.sc .nilFunc)))] [2,3] (qR [qa 5 (.mkfun (.func 212) [] [.t 2,.t 3]),Qm 4 5] [4] .ret)
theorem c119:FB 119 []=some (r119,s119):=by kernel_rfl
def r128:RL:=[(6,none)]
def s128:SCode:=qR [QB 4 3 1 1,QB 5 9 1 2,Qf 6] [0,4,5] (qR [Qm 7 0,qa 8 (.mkfun (.func 216) [] [.t 4,.t 5]),Q2 9 215 7 8,Qm 6 9] [6] .ret)
theorem c128:FB 128 []=some (r128,s128):=by kernel_rfl
def r131:RL:=[(4,some (true,3)),(5,none),(6,none)]
def s131:SCode:=qR [Qb 2 8 0,QB 3 23 3 1,qa 4 (.alloc 23 Ze15),Qi 5 0,Qf 6] [2,3,4] (qR [Ql 10 8 2,Ql 11 3 3,Q2 12 83 10 11,Qm 7 12] [3,4,7] (qs (qR [Qm 13 7,Qn 14 13,Qu 15 .lss 14 2] [3,4,7,15] (.cond (.t 15) (qR [qa 16 (.build Ze15 []),QS 3 4 16,Qi 5 (-1),Qf 6] [4,5,6] .ret) .skip)) (qR [Qm 17 7,Qm 18 7,Qn 19 18,Qu 20 .sub 19 2,Qx 21 8 17 20,Ql 22 8 21,QU 8 27,QS 8 8 22] [3,4,8] (qR [Qa 23 7 8,Qo 24 23,qa 25 (.mkfun (.func 221) [] [.t 3]),Q2 26 220 24 25,Qm 9 26] [4,8,9] (qR [Qa 27 0 8,Ql 28 3 27,Qm 29 9,QS 3 4 28,Qm 5 29,Qt 6] [4,5,6] .ret)))))
theorem c131:FB 131 [2000002]=some (r131,s131):=by kernel_rfl
def r134:RL:=[(3,some (true,8))]
def s134:SCode:=qR [QB 2 27 8 0,QU 3 27] [1,2,3] (qR [Qo 4 1,Qa 5 4 2,QS 1 5 4] [2,3] (qR [Ql 6 8 2,QS 8 3 6] [3] .ret))
theorem c134:FB 134 []=some (r134,s134):=by kernel_rfl
def r137:RL:=[(3,some (true,8))]
def s137:SCode:=qR [QB 2 27 8 0,QU 3 27] [1,2,3] (qR [Qo 4 1,Q1 5 86 4,Qa 6 5 2,QS 1 6 5] [2,3] (qR [Ql 7 8 2,QS 8 3 7] [3] .ret))
theorem c137:FB 137 []=some (r137,s137):=by kernel_rfl
def r143:RL:=[(4,none)]
def s143:SCode:=qR [Qb 2 8 0,QB 3 46 1 1,Qz 4] [2,3] (qs (qR [Qo 13 3,Q1 14 100 13,Qr 15 14] [2,3,15] (.cond (.t 15) (qR [Qz 4] [4] .ret) .skip)) (qR [qa 5 (.alloc 25 [.nil])] [2,3,5] (qs (qs (.block 0 (qR [Qo 20 3,Qn 21 20,Qu 22 .eql 21 0,Qm 19 22] [2,3,5,19] (.cond (.t 19) (qR [Ql 23 8 2,qa 24 (.buildS 27 8 1 zU [(0,.t 23)]),Qm 4 24] [4] .ret) (qR [Qo 26 3,qa 27 (.indexA 2 (.t 26) (qi 0)),Ql 28 2 27,Q1 29 189 28,Qm 25 29] [2,3,5,25] (.cond (.t 25) (qr [Ql 30 8 2,qa 31 (.buildS 27 8 1 zU [(0,.t 30)]),QS 1 5 31] [3,5]) (qr [Ql 16 8 2,qa 17 (.mkfun (.func 230) [] [.t 3,.t 5]),Q2 18 229 16 17] [3,5])))))) (qr [] [3,5])) (qs (qR [Qo 32 3,qa 33 (.slice 2 (.t 32) (some (qi 1)) none),Qn 34 33,Qi 35 0] [5,33,34,35] (qs (.block 1 (.loop (qR [Qv 36 .lss 35 34] [5,33,34,35,36] (qs (.cond (.t 36) .skip (.exit 1)) (qs (qs (.block 2 (qR [Qx 37 2 33 35,Ql 38 2 37,qa 7 (.alloc 152 [.int .i64 0,.str []]),QS 2 7 38] [5,7,33,34,35] (qR [Qz 8] [5,7,8,33,34,35] (qs (qR [Qo 39 5,Qn 40 39,Qi 41 0] [5,7,8,33,34,35,39,40,41] (qs (.block 3 (.loop (qR [Qv 42 .lss 41 40] [5,7,8,33,34,35,39,40,41,42] (qs (.cond (.t 42) .skip (.exit 3)) (qs (qs (.block 4 (qR [Qx 43 8 39 41,Ql 44 8 43,QU 10 27,QS 8 10 44] [5,7,8,10,33,34,35,39,40,41] (qR [Qa 45 7 10,Qo 46 45,Qn 47 46,Qi 48 0] [5,7,8,33,34,35,39,40,41,46,47,48] (qs (.block 5 (.loop (qR [Qv 49 .lss 48 47] [5,7,8,33,34,35,39,40,41,46,47,48,49] (qs (.cond (.t 49) .skip (.exit 5)) (qs (qs (.block 6 (qR [Qx 50 8 46 48,Ql 51 8 50,QU 12 27,QS 8 12 51] [5,7,8,12,33,34,35,39,40,41,46,47,48] (qR [Ql 52 8 12,Ql 53 2 7,Q2 54 231 52 53] [5,7,8,12,33,34,35,39,40,41,46,47,48,54] (.cond (.t 54) (qr [Qm 55 8,Ql 56 8 12,qa 57 (.buildS 27 8 1 zU [(0,.t 56)]),Qw 58 27 8 120 55 57,Qm 8 58] [5,7,8,33,34,35,39,40,41,46,47,48]) .skip)))) (qr [] [5,7,8,33,34,35,39,40,41,46,47,48])) (qr [Qu 59 .add 48 1,Qm 48 59] [5,7,8,33,34,35,39,40,41,46,47,48])))))) (qr [] [5,7,8,33,34,35,39,40,41]))))) (qr [] [5,7,8,33,34,35,39,40,41])) (qr [Qu 60 .add 41 1,Qm 41 60] [5,7,8,33,34,35,39,40,41])))))) (qr [] [5,8,33,34,35]))) (qr [Qm 61 8,QS 1 5 61] [5,33,34,35]))))) (qr [] [5,33,34,35])) (qr [Qu 62 .add 35 1,Qm 35 62] [5,33,34,35])))))) (qr [] [5]))) (qR [Qo 63 5,Qm 4 63] [4] .ret)))))
theorem c143:FB 143 [2000002]=some (r143,s143):=by kernel_rfl
def r146:RL:=[(4,none)]
def s146:SCode:=qR [Qb 2 8 0,QB 3 27 8 1,Qi 4 0] [2,3] (qs (qR [Qa 5 3 2,Qo 6 5,Qa 7 3 3,Qo 8 7,Q2 9 122 6 8,Qr 10 9] [2,3,10] (.cond (.t 10) (qR [Qi 4 9] [4] .ret) .skip)) (qs (qR [Qa 11 7 2,Qo 12 11,qa 13 (.mkfun (.func 236) [] [.t 3]),Q2 14 215 12 13] [14] (.cond (.t 14) (qR [Qi 4 10] [4] .ret) .skip)) (qR [Qi 4 0] [4] .ret)))
theorem c146:FB 146 [2000002]=some (r146,s146):=by kernel_rfl
def r152:RL:=[(4,none)]
def s152:SCode:=qR [Qb 3 3 1,Qf 4] [0,3] (qR [Qm 5 0,Ql 6 3 3,Q2 7 241 5 6,Qu 8 .geq 7 0,Qm 4 8] [4] .ret)
theorem c152:FB 152 [2000003]=some (r152,s152):=by kernel_rfl
def r155:RL:=[(6,none)]
def s155:SCode:=qR [Qz 6] [0,1,2] (qR [Qm 10 0,Qm 11 1,qa 12 (.raw (.slice 25 (.tmp 10) (some (.tmp 11)) none none))] [0,1,2] (qR [Qm 13 2,Qn 14 13,Qm 7 14] [0,1,2,7] (qs (qR [Qm 15 7,Qu 16 .eql 15 0] [0,1,2,7,16] (.cond (.t 16) (qR [Qm 17 0,Qm 6 17] [6] .ret) .skip)) (qR [Qm 18 0,Qn 19 18,Qm 8 19] [0,1,2,7,8] (qs (qR [Qm 20 1,Qm 21 8,Qv 22 .eql 20 21] [0,1,2,7,8,22] (.cond (.t 22) (qR [Qm 23 0,Qm 24 2,qa 25 (.raw (.call (.mk (.builtin .append) #[.tmp 23,.tmp 24] #[25,25]))),Qm 6 25] [6] .ret) .skip)) (qs (qR [Qm 26 8,Qm 27 7,Qv 28 .add 26 27,Qm 29 0,qa 30 (.raw (.call (.mk (.builtin .cap) #[.tmp 29] #[25]))),Qv 31 .gtr 28 30] [0,1,2,7,8,31] (.cond (.t 31) (qR [Qm 32 0,Qm 33 1,qa 34 (.raw (.slice 25 (.tmp 32) none (some (.tmp 33)) none)),Qm 35 8,Qm 36 7,Qv 37 .add 35 36,Qm 38 1,Qv 39 .sub 37 38,qa 40 (.raw (.call (.mk (.builtin .append) #[.tmp 34,.tmp 39] #[25,3]))),Qm 9 40] [0,1,2,7,9] (qR [Qm 41 9,Qm 42 1,qa 43 (.raw (.slice 25 (.tmp 41) (some (.tmp 42)) none none)),Qm 44 2,qa 45 (.raw (.call (.mk (.builtin .copy) #[.tmp 43,.tmp 44] #[25,25])))] [0,1,7,9] (qs (.drawT (.step (Qm 46 9) (.step (Qm 47 1) (.step (Qm 48 7) (.step (Qv 49 .add 47 48) (.step (Qm 51 0) (.step (Qm 52 1) (.both (.step Ze43 (.step Ze42 Ze30)) (.step Ze42 (.step Ze43 Ze30))))))))) [9]) (qR [Qm 55 9,Qm 6 55] [6] .ret)))) .skip)) (qR [Qm 56 0,Qm 57 8,Qm 58 7,Qv 59 .add 57 58,qa 60 (.raw (.slice 25 (.tmp 56) none (some (.tmp 59)) none)),Qm 0 60] [0,1,2,7,8] (qs (qR [Qm 61 2,Qm 62 0,Qm 63 1,Qm 64 7,Qv 65 .add 63 64,qa 66 (.raw (.slice 25 (.tmp 62) (some (.tmp 65)) none none)),Q2 67 242 61 66,Qr 68 67] [0,1,2,7,8,68] (.cond (.t 68) (qs (.drawT (.step (Qm 69 0) (.step (Qm 70 1) (.step (Qm 71 7) (.step (Qv 72 .add 70 71) (.step (Qm 74 0) (.step (Qm 75 1) (.both (.step Ze41 (.step Ze40 Ze29)) (.step Ze40 (.step Ze41 Ze29))))))))) [0,1,2]) (qR [Qm 78 0,Qm 79 1,qa 80 (.raw (.slice 25 (.tmp 78) (some (.tmp 79)) none none)),Qm 81 2,qa 82 (.raw (.call (.mk (.builtin .copy) #[.tmp 80,.tmp 81] #[25,25])))] [0] (qR [Qm 83 0,Qm 6 83] [6] .ret))) .skip)) (qR [Qm 84 0,Qm 85 8,qa 86 (.raw (.slice 25 (.tmp 84) (some (.tmp 85)) none none)),Qm 87 2,qa 88 (.raw (.call (.mk (.builtin .copy) #[.tmp 86,.tmp 87] #[25,25])))] [0,1,7] (qR [Qm 89 0,Qm 90 1,qa 91 (.raw (.slice 25 (.tmp 89) (some (.tmp 90)) none none)),Qm 92 7,Q2 93 243 91 92] [0] (qR [Qm 94 0,Qm 6 94] [6] .ret)))))))))))
theorem c155:FB 155 [3000012,3000025,3000034,3000043,3000050,3000053,3000060,3000066,3000073,3000076,3000080,3000086,3000091]=some (r155,s155):=by kernel_rfl
def r158:RL:=[]
def s158:SCode:=qr [Qm 3 0,Qo 4 1,Qc 5 3,Qa 6 6 5,QS 1 6 4] []
theorem c158:FB 158 []=some (r158,s158):=by kernel_rfl
def r161:RL:=[(8,none)]
def s161:SCode:=qR [Qz 8] [0,1,2,3] (qR [Qz 9] [0,1,2,3,9] (qs (qR [Qm 12 0,Qn 13 12,Qi 14 0] [1,2,3,9,12,13,14] (qs (.block 0 (.loop (qR [Qv 15 .lss 14 13] [1,2,3,9,12,13,14,15] (qs (qX 15) (qs (qs (.block 1 (qR [Qm 16 14,Qx 17 1 12 14,Qo 18 17,Qm 10 16,Qm 11 18] [1,2,3,9,10,11,12,13,14] (qr [Qm 19 9,Qm 20 11,Qm 21 1,Qm 22 2,Qm 23 3,Qm 24 10,Qv 25 .add 23 24,qa 26 (.build Ze15 [(0,(1,.t 21)),(1,(1,.t 22)),(2,(1,.t 25))]),qa 27 (.build Ze33 [(0,(1,.t 20)),(1,(3,.t 26))]),qa 28 (.buildS 33 4 1 Ze33 [(0,.t 27)]),Qw 29 33 4 40 19 28,Qm 9 29] [1,2,3,9,12,13,14]))) (qr [] [1,2,3,9,12,13,14])) (qr [Qu 30 .add 14 1,Qm 14 30] [1,2,3,9,12,13,14])))))) (qr [] [9]))) (qR [Qm 31 9,Qm 8 31] [8] .ret)))
theorem c161:FB 161 []=some (r161,s161):=by kernel_rfl
def r164:RL:=[]
def s164:SCode:=.drawT (.step (Qm 4 0) (.step (Qm 5 0) (.step (Qc 6 5) (.step (Qa 7 7 6) (.both (.step (Qo 8 7) (.both (.step (Qo 9 1) (.step (Ql 10 8 2) Ze59)) (.step (Ql 10 8 2) Ze35))) (.both (.step (Qo 9 1) (.both (.step (Qo 8 7) (.step (Ql 10 8 2) Ze59)) (.step (Ql 10 8 2) Ze36))) (.step (Ql 10 8 2) (.both (.step (Qo 8 7) Ze35) (.both (.step (Qo 9 1) Ze36) (.step Ze8 (.both (.step (Qo 8 7) (.step (Qo 9 1) Ze4)) (.step (Qo 9 1) (.step (Qo 8 7) Ze4))))))))))))) []
theorem c164:FB 164 []=some (r164,s164):=by kernel_rfl
def r203:RL:=[(2,none)]
def s203:SCode:=qR [Qz 2] [0] (qs (qR [Qm 3 0,qa 4 (.eqnil 0 false (.t 3))] [0,4] (.cond (.t 4) (qR [Qz 2] [2] .ret) .skip)) (qR [qa 5 (.raw (.buildSlice 25 0 #[])),Qm 6 0,qa 7 (.raw (.call (.mk (.builtin .append) #[.tmp 5,.tmp 6] #[25,25]))),Qm 2 7] [2] .ret))
theorem c203:FB 203 [3000005,3000007]=some (r203,s203):=by kernel_rfl
def r206:RL:=[(4,none)]
def s206:SCode:=qR [Qf 4] [0,1,2,3] (qs (.drawT (.step (Qa 5 7 0) (.step (Qo 6 5) (.step (Qn 7 6) (.step (Qu 8 .geq 7 64) (.step (Qm 9 8) (.both (.step Ze48 (.both (.step Ze47 Ze21) (.step Ze46 (.step Ze47 Ze9)))) (.both (.step Ze47 (.both (.step Ze48 Ze21) (.step Ze46 (.step Ze48 Ze9)))) (.step Ze46 (.both (.step Ze48 (.step Ze47 Ze9)) (.step Ze47 (.step Ze48 Ze9))))))))))) [4]) .ret)
theorem c206:FB 206 []=some (r206,s206):=by kernel_rfl
def r209:RL:=[(2,none)]
def s209:SCode:=qR [Qf 2] [0,1] (qR [Qo 3 0,Qu 4 .lss 3 0,Qm 5 4,qc 6 5 (lo 0),qc 7 5 (fa 7 1),qc 8 5 (lo 7),qc 9 5 (.len (.t 8)),qc 10 5 (.bin .gtr (.t 6) (.t 9)),Qq 11 5 10,Qm 2 11] [2] .ret)
theorem c209:FB 209 []=some (r209,s209):=by kernel_rfl
def r212:RL:=[(4,some (true,8))]
def s212:SCode:=qR [QB 3 27 8 0,QU 4 27] [1,2,3,4] (qs (.drawT (.step (Qa 5 7 3) (.both (.step (Qo 6 5) (.both (.step (Q1 7 203 6) (.both (.step (Qo 8 1) (.step (Ql 9 8 2) Ze38)) (.step (Ql 9 8 2) Ze11))) (.both (.step (Qo 8 1) Ze26) (.step (Ql 9 8 2) Ze54)))) (.both (.step (Qo 8 1) (.both (.step (Qo 6 5) Ze26) (.step (Ql 9 8 2) (.step (Qo 6 5) Ze16)))) (.step (Ql 9 8 2) (.both (.step (Qo 6 5) Ze54) (.step (Qo 8 1) (.step (Qo 6 5) Ze16))))))) [3,4]) (qR [Ql 14 8 3,QS 8 4 14] [4] .ret))
theorem c212:FB 212 []=some (r212,s212):=by kernel_rfl
def r215:RL:=[(4,none)]
def s215:SCode:=qR [Qf 4] [0,1] (qR [Qm 5 0,Qm 6 1,Q2 7 220 5 6,Qu 8 .geq 7 0,Qm 4 8] [4] .ret)
theorem c215:FB 215 []=some (r215,s215):=by kernel_rfl
def r221:RL:=[(3,none)]
def s221:SCode:=qR [Qb 2 8 0,Qf 3] [1,2] (qR [Ql 4 8 2,Ql 5 3 1,Q2 6 83 4 5,qa 7 (.eqnil 0 true (.t 6)),Qm 3 7] [3] .ret)
theorem c221:FB 221 [2000002]=some (r221,s221):=by kernel_rfl
def r224:RL:=[(3,none)]
def s224:SCode:=qR [Qf 3] [0,1,2] (qR [Ql 4 8 0,Q1 5 111 4,Qr 6 5,Qm 7 6,qc 8 7 (lo 1),qc 9 7 (lo 2),qc 10 7 (.call (.f 225) [.t 8,.t 9]),Qq 11 7 10,Qm 3 11] [3] .ret)
theorem c224:FB 224 []=some (r224,s224):=by kernel_rfl
def r227:RL:=[(1,none)]
def s227:SCode:=qR [Qf 1] [0] (qR [Qa 2 3 0,Qo 3 2,Qu 4 .eql 3 0,Qm 1 4] [1] .ret)
theorem c227:FB 227 []=some (r227,s227):=by kernel_rfl
def r230:RL:=[]
def s230:SCode:=qR [Qb 3 8 0] [1,2,3] (qs (.drawL [Qs 4 8 3,Qo 5 1,qa 6 (.indexA 2 (.t 5) (qi 0)),Ql 7 2 6,Q2 8 231 4 7] [2,3,8]) (.cond (.t 8) (.drawT (.step (Qs 10 8 3) (.both (.step (Qo 9 2) (.step (Qn 11 9) (.step Ze55 Ze17))) (.step Ze55 (.step (Qo 9 2) (.step (Qn 11 9) Ze17))))) []) .skip))
theorem c230:FB 230 [2000003,3000013]=some (r230,s230):=by kernel_rfl
def r233:RL:=[(2,none)]
def s233:SCode:=qR [Qf 2] [0] (qR [Qm 3 0,Qu 4 .geq 3 0,Qm 5 4,Bm 6 5 0,qb 7 5 (.bin .leq (.t 6) (qi 3)),Qp 8 5 7,Qm 2 8] [2] .ret)
theorem c233:FB 233 []=some (r233,s233):=by kernel_rfl
def r236:RL:=[(3,none)]
def s236:SCode:=qR [Qb 2 8 0,Qf 3] [1,2] (qR [Qa 4 3 2,Qo 5 4,Qa 6 3 1,Qo 7 6,Qv 8 .eql 5 7,Qm 9 8,qb 10 9 (fa 4 2),qb 11 9 (lo 10),qb 12 9 (fa 4 1),qb 13 9 (lo 12),qb 14 9 (.bin .eql (.t 11) (.t 13)),Qp 15 9 14,Qm 3 15] [3] .ret)
theorem c236:FB 236 [2000002]=some (r236,s236):=by kernel_rfl
def r245:RL:=[(6,none)]
def s245:SCode:=qR [Qz 6] [0,1,2] (qR [Qm 8 0,Q1 9 277 8,Qm 10 1,Q2 11 276 9 10,Qm 7 11] [2,7] (qs (qs (.block 0 (qR [Qm 13 2,Qu 14 .eql 13 0,Qm 12 14] [2,7,12] (.cond (.t 12) (qR [Qm 15 7,Qm 6 15] [6] .ret) (qR [Qm 17 2,Qm 18 7,Qn 19 18,Qv 20 .gtr 17 19,Qm 16 20] [2,7,16] (.cond (.t 16) (qR [Qz 6] [6] .ret) .skip))))) (qr [] [2,7])) (qR [Qm 21 7,Qm 22 2,Qu 23 .sub 22 1,Qm 24 2,qa 25 (.slice 1 (.t 21) (some (.t 23)) (some (.t 24))),Qm 6 25] [6] .ret)))
theorem c245:FB 245 []=some (r245,s245):=by kernel_rfl
def r299:RL:=[(6,some (true,4)),(7,none)]
def s299:SCode:=qR [Qb 3 8 0,Qb 4 3 1,qa 6 (.alloc 212 Ze31),Qi 7 0] [2,3,4,6] (qR [Ql 11 8 3,Ql 12 3 4,Q2 13 44 11 12,Qm 10 13,Qe 14 0 10,Qe 15 1 10,QU 8 27,QS 8 8 14,Qm 9 15] [2,4,6,8] (qs (.drawL [Qs 16 3 4,Qm 17 2,Qa 18 7 8,Qo 19 18,Qn 20 19,qa 21 (.call (.t 17) [.t 20]),qa 22 (.build Ze31 [(0,(3,.t 16)),(3,(1,.t 21))]),QS 4 6 22,Qi 7 0] [6,7]) .ret))
theorem c299:FB 299 [2000003,2000004]=some (r299,s299):=by kernel_rfl
def r302:RL:=[(2,none)]
def s302:SCode:=qR [Qi 2 0] [0] (qR [Qm 3 0,Qm 2 3] [2] .ret)
theorem c302:FB 302 []=some (r302,s302):=by kernel_rfl
def r305:RL:=[(4,some (true,4)),(5,none)]
def s305:SCode:=qR [Qb 2 8 0,Qb 3 3 1,qa 4 (.alloc 212 Ze31),Qi 5 0] [2,3,4] (qR [Ql 6 8 2,Ql 7 3 3,qa 8 (.call (.f 304) [.t 6,.t 7,qi 0]),Qe 9 0 8,Qe 10 1 8,QS 4 4 9,Qm 5 10] [4,5] .ret)
theorem c305:FB 305 [2000002,2000003]=some (r305,s305):=by kernel_rfl
end Go.Av
