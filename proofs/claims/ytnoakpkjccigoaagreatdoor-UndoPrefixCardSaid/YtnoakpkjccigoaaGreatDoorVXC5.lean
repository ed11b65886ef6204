/-
  THE TRANSLATED CODE. Printed by mkcode2.py.
-/
import Derived.Test.YtnoakpkjccigoaaGreatDoorVXOpenGtoXCS
import Derived.Test.YtnoakpkjccigoaaGreatDoorVXAv24toXAv26
import Derived.Test.YtnoakpkjccigoaaGreatDoorProg
namespace Go.Av
open Go List
set_option linter.unusedSimpArgs false
set_option linter.unusedVariables false
abbrev Zd66:SOper:=qa 21 (.raw (.convert 107 9 (.tmp 20)))
abbrev Zd65:SOper:=qa 38 (.raw (.convert 107 9 (.tmp 37)))
abbrev Zd6:List AV:=[.int .i64 0,.int .i64 0,.int .i64 0,.int .i64 0]
abbrev Zd64:List SOper:=[Qb 2 8 0,Qb 3 3 1,qa 4 (.alloc 212 Zd6),Qi 5 0]
abbrev Zd13:SOper:=qa 29 (.raw (.index 246 (.tmp 27) (.tmp 28)))
abbrev Zd57:DT:=.step (QS 4 11 33) (.step (Qm 10 34) .done)
abbrev Zd1:DT:=.step (qa 32 (.call (.t 29) [.t 30,.t 31])) (.step (Qm 26 32) (.step (Qe 33 0 26) (.step (Qe 34 1 26) Zd57)))
abbrev Zd63:DT:=.step Zd13 Zd1
abbrev Zd0:List AV:=[.int .i64 0,.int .i64 0,.int .i64 0,.int .i64 0,.nil,.nil,.int .i64 0,.int .i64 0,.int .i64 0,.int .i64 0,.int .i64 0,.int .i64 0,.str [],.nil,.nil,.nil,.nil,.nil,.str [],.str [],.int .i64 0,.int .i64 0,.str [],.int .i64 0,.int .i64 0,.int .i64 0,.str [],.nil]
abbrev Zd14:SOper:=qa 12 (.buildS 54 28 1 Zd0 [(0,.t 11)])
abbrev Zd60:DT:=.step (QS 8 2 14) (.step (Qm 3 15) .done)
abbrev Zd2:DT:=.step (Q2 13 19 10 12) (.step (Qm 9 13) (.step (Qe 14 0 9) (.step (Qe 15 1 9) Zd60)))
abbrev Zd62:DT:=.step Zd14 Zd2
abbrev Zd15:SOper:=qa 11 (.buildS 27 8 1 zU [(0,.t 10)])
abbrev Zd5:DT:=.step (Q3 12 155 8 9 11) (.step (Qc 13 4) (.step (Qa 14 7 13) (.step (QS 1 14 12) .done)))
abbrev Zd61:DT:=.step Zd15 Zd5
abbrev Zd59:DT:=.step (QS 8 4 38) (.step (Qm 5 39) .done)
abbrev Zd58:DT:=.step (QS 8 7 15) (.step (Qm 8 16) .done)
abbrev Zd56:SOper:=qa 20 (.buildS 5 1 1 [.int .u8 0] [(0,.t 19)])
abbrev Zd55:SOper:=qa 37 (.buildS 5 1 1 [.int .u8 0] [(0,.t 36)])
abbrev Zd54:SCode:=qr [Qu 40 .add 13 1,Qm 13 40] [2,4,6,11,12,13]
abbrev Zd53:SOper:=Qu 10 .add 9 1
abbrev Zd52:DT:=.step (Q2 61 21 56 60) (.step (Qr 62 61) .done)
abbrev Zd51:DT:=.step (Qv 22 .add 15 21) (.step (Qm 2 22) .done)
abbrev Zd50:DT:=.step (Qv 39 .add 32 38) (.step (Qm 2 39) .done)
abbrev Zd49:SCode:=.cond (.t 16) (qR [Qm 17 5,Qm 4 17] [4] .ret) .skip
abbrev Zd48:SCode:=qR [Ql 41 8 2,Qm 42 6,QS 8 4 41,Qm 5 42] [4,5] .ret
abbrev Zd47:List SOper:=[Qx 15 28 11 13,Ql 16 28 15,qa 8 (.alloc 54 Zd0),QS 28 8 16]
abbrev Zd4:DT:=.step (Q4 20 161 7 11 15 19) (.step (Qm 5 20) .done)
abbrev Zd27:DT:=.step (Qo 19 18) Zd4
abbrev Zd29:DT:=.step (Qo 11 10) Zd4
abbrev Zd46:DT:=.both (.step (Qo 11 10) Zd27) (.step (Qo 19 18) Zd29)
abbrev Zd28:DT:=.step (Qo 15 14) Zd4
abbrev Zd45:DT:=.both (.step (Qo 11 10) Zd28) (.step (Qo 15 14) Zd29)
abbrev Zd44:DT:=.both (.step (Qo 15 14) Zd27) (.step (Qo 19 18) Zd28)
abbrev Zd18:SOper:=qa 11 (.alloc 212 Zd6)
abbrev Zd11:DT:=.both (.step (qa 32 (.call (.t 29) [.t 30,.t 31])) (.step (Qm 26 32) (.step (Qe 33 0 26) (.step (Qe 34 1 26) (.step Zd18 Zd57))))) (.step Zd18 Zd1)
abbrev Zd43:DT:=.both (.step Zd13 Zd11) (.step Zd18 Zd63)
abbrev Zd24:DT:=.step (Q1 7 277 6) Zd4
abbrev Zd42:DT:=.both (.step (Q1 7 277 6) Zd27) (.step (Qo 19 18) Zd24)
abbrev Zd41:DT:=.both (.step (Q1 7 277 6) Zd28) (.step (Qo 15 14) Zd24)
abbrev Zd40:DT:=.both (.step (Q1 7 277 6) Zd29) (.step (Qo 11 10) Zd24)
abbrev Zd16:DT:=.both (.step (Q2 13 19 10 12) (.step (Qm 9 13) (.step (Qe 14 0 9) (.step (Qe 15 1 9) (.step (QU 2 27) Zd60))))) (.step (QU 2 27) Zd2)
abbrev Zd39:DT:=.both (.step Zd14 Zd16) (.step (QU 2 27) Zd62)
abbrev Zd38:SOper:=qa 22 (.raw (.slice 25 (.tmp 20) none (some (.tmp 21)) none))
abbrev Zd37:SOper:=qa 25 (.raw (.slice 25 (.tmp 23) (some (.tmp 24)) none none))
abbrev Zd36:List AV:=[.sc .nilFunc,.int .i64 0,.sc .nilFunc,.int .i64 0,.sc .nilFunc,.int .i64 0]
abbrev Zd35:DT:=.both (.step (Qo 8 7) Zd61) (.step Zd15 (.step (Qo 8 7) Zd5))
abbrev Zd34:DT:=.both (.step (Qo 9 1) Zd61) (.step Zd15 (.step (Qo 9 1) Zd5))
abbrev Zd33:DT:=.step (Qm 7 42) (.step (Qi 8 0) .done)
abbrev Zd32:DT:=.both (.step (Q0 10 26) Zd62) (.step Zd14 (.step (Q0 10 26) Zd2))
abbrev Zd31:DT:=.both (.step Zd13 (.step (Ql 31 3 9) Zd1)) (.step (Ql 31 3 9) Zd63)
abbrev Zd10:DT:=.step (Q1 33 116 32) (.step (QS 8 4 31) (.step (QS 8 5 33) (.step (Qi 6 0) .done)))
abbrev Zd19:DT:=.step (Q2 31 115 29 30) Zd10
abbrev Zd30:DT:=.both (.step (Q2 31 115 29 30) (.step (Ql 32 8 8) Zd10)) (.step (Ql 32 8 8) Zd19)
abbrev Zd26:DT:=.step Zd66 Zd51
abbrev Zd25:DT:=.step Zd65 Zd50
abbrev Zd23:DT:=.step (qa 26 (.raw (.call (.mk (.builtin .append) #[.tmp 22,.tmp 25] #[25,25])))) (.step (Qm 0 26) .done)
abbrev Zd22:SCode:=qR [Qa 17 3 8,Qa 18 0 17,Qo 19 18,Q1 20 48 19,Qr 21 20] [2,4,6,8,11,12,13,21] (.cond (.t 21) (.exit 1) .skip)
abbrev Zd21:List AV:=[.sc .nilFunc,.int .i64 0]
abbrev Zd20:DT:=.step (Q3 14 211 11 12 13) (.step (Qm 9 14) (.step (Qe 15 0 9) (.step (Qe 16 1 9) Zd58)))
abbrev Zd8:DT:=.step (Q2 37 14 33 36) (.step (Qm 32 37) (.step (Qe 38 0 32) (.step (Qe 39 1 32) Zd59)))
abbrev Zd17:DT:=.both (.step (Q2 37 14 33 36) (.step (Qm 32 37) (.step (Qe 38 0 32) (.step (Qe 39 1 32) (.step (QU 4 27) Zd59))))) (.step (QU 4 27) Zd8)
abbrev Zd12:DT:=.step (Q3 11 202 7 8 10) (.step (Qc 12 3) (.step (Qa 13 7 12) (.step (QS 1 13 11) .done)))
abbrev Zd7:List AV:=[.int .i64 0,.int .i64 0,.int .i64 0]
abbrev Zd9:DT:=.step (qa 26 (.build Zd7 [(0,(1,.t 17)),(1,(1,.t 21)),(2,(1,.t 25))])) (.step (Qa 27 0 3) (.step (QS 3 27 26) .done))
abbrev Zd3:List AV:=[.int .i64 0,.int .i64 0,.int .i64 0,.int .i64 0,.int .i64 0,.int .i64 0,.int .i64 0,.int .i64 0,.int .i64 0,.int .i64 0,.int .i64 0,.int .i64 0,.str [],.nil,.nil,.nil,.str [],.nil]
def r7:RL:=[(4,none)]
def s7:SCode:=qR [Qb 2 8 0,Qf 4] [1,2] (qs (qR [Ql 12 8 2,Qm 13 1,Q2 14 13 12 13,Qr 15 14] [1,2,15] (.cond (.t 15) (qR [Q0 16 10,Qm 4 16] [4] .ret) .skip)) (qR [Ql 18 8 2,Qm 19 1,Q2 20 19 18 19,Qm 17 20,Qe 21 0 17,Qe 22 1 17,QU 5 27,QS 8 5 21,Qm 6 22] [1,5,6] (qR [Ql 24 8 5,Qm 25 6,Q2 26 20 24 25,Qm 23 26,Qe 27 0 23,Qe 28 1 23,QU 7 27,QS 8 7 27,Qm 8 28] [1,5,6,7,8] (qs (qR [Qm 29 8,Qu 30 .neq 29 0] [1,5,6,7,30] (.cond (.t 30) (qR [Qf 4] [4] .ret) .skip)) (qR [Ql 32 8 7,Qm 33 1,Q2 34 19 32 33,Qm 31 34,Qe 35 0 31,Qe 36 1 31,QU 9 27,QS 8 9 35,Qm 10 36] [5,6,9,10] (qs (qR [Ql 37 8 9,Ql 38 8 5,Q2 39 16 37 38,Qr 40 39,Qm 41 40,Ym 42 41 10,qc 43 41 (.len (.t 42)),Ym 44 41 6,qc 45 41 (.len (.t 44)),qc 46 41 (.bin .neq (.t 43) (.t 45)),Qq 47 41 46] [6,10,47] (.cond (.t 47) (qR [Qf 4] [4] .ret) .skip)) (qs (qR [Qm 48 10,Qn 49 48,Qi 50 0] [6,10,49,50] (qs (.block 0 (.loop (qR [Qv 51 .lss 50 49] [6,10,49,50,51] (qs (qX 51) (qs (qs (.block 1 (qR [Qm 52 50,Qm 11 52] [6,10,11,49,50] (qs (.drawT (.step (Qm 53 10) (.step (Qm 54 11) (.step (Qx 55 18 53 54) (.step (Qm 57 6) (.step (Qm 58 11) (.step (Qx 59 18 57 58) (.both (.step (Ql 56 18 55) (.step (Ql 60 18 59) Zd52)) (.step (Ql 60 18 59) (.step (Ql 56 18 55) Zd52))))))))) [6,10,49,50,62]) (.cond (.t 62) (qR [Qf 4] [4] .ret) .skip)))) (qr [] [6,10,49,50])) (qr [Qu 63 .add 50 1,Qm 50 63] [6,10,49,50])))))) (qr [] []))) (qR [Q0 64 10,Qm 4 64] [4] .ret))))))))
theorem c7:FB 7 [2000002]=some (r7,s7):=by kernel_rfl
def r10:RL:=[(0,none)]
def s10:SCode:=qR [Qf 0] [] (qR [qa 6 (.build zU [(3,(1,qi 2)),(4,(1,.c (.str [53])))]),qa 7 (.build zItm [(0,(1,qi 0)),(3,(1,qi 1)),(5,(8,.t 6))]),qa 8 (.build Zd0 [(0,(1,qi 1)),(3,(25,.t 7))]),qa 1 (.alloc 54 Zd0),QS 28 1 8] [1] (qs (.drawT (.both (.step (Q0 10 26) (.both (.step (Ql 11 28 1) Zd39) (.step (QU 2 27) (.step (Ql 11 28 1) Zd62)))) (.both (.step (Ql 11 28 1) (.both (.step (Q0 10 26) Zd39) (.both (.step Zd14 (.both (.step (Q0 10 26) Zd16) (.step (QU 2 27) (.step (Q0 10 26) Zd2)))) (.step (QU 2 27) Zd32)))) (.step (QU 2 27) (.both (.step (Q0 10 26) (.step (Ql 11 28 1) Zd62)) (.step (Ql 11 28 1) Zd32))))) [2,3]) (qs (qR [Qa 16 7 2,Qo 17 16,Qn 18 17,Qu 19 .neq 18 1,Qm 20 19,Ym 21 20 3,qc 22 20 (.len (.t 21)),qc 23 20 (.bin .neq (.t 22) (qi 1)),Qq 24 20 23,Qm 25 24,Ym 26 25 3,qc 27 25 (.indexA 18 (.t 26) (qi 0)),qc 28 25 (lm 18 27),qc 29 25 (.call (.f 11) [.t 28]),qc 30 25 (.bin .neq (.t 29) (.c (.str [105,110,115,101,114,116,101,100,32,49,46,48,46,49]))),Qq 31 25 30] [2,3,31] (.cond (.t 31) (qR [Qf 0] [0] .ret) .skip)) (qs (.drawT (.step (Qm 34 3) (.step (qa 35 (.indexA 18 (.t 34) (qi 0))) (.both (.step (Ql 33 8 2) (.both (.step (Ql 36 18 35) Zd17) (.step (QU 4 27) (.step (Ql 36 18 35) Zd8)))) (.both (.step (Ql 36 18 35) (.both (.step (Ql 33 8 2) Zd17) (.step (QU 4 27) (.step (Ql 33 8 2) Zd8)))) (.step (QU 4 27) (.both (.step (Ql 33 8 2) (.step (Ql 36 18 35) Zd8)) (.step (Ql 36 18 35) (.step (Ql 33 8 2) Zd8)))))))) [4,5]) (qR [Qm 40 5,Qu 41 .eql 40 0,Qm 42 41,qb 43 42 (fa 7 4),qb 44 42 (lo 43),qb 45 42 (.len (.t 44)),qb 46 42 (.bin .eql (.t 45) (qi 0)),Qp 47 42 46,Qm 0 47] [0] .ret)))))
theorem c10:FB 10 []=some (r10,s10):=by kernel_rfl
def r13:RL:=[(4,none)]
def s13:SCode:=qR [Qb 2 8 0,Qf 4] [1,2] (qR [Ql 5 8 2,qa 6 (.call (.f 9) [.t 5,qi 30]),Qm 7 6,qb 8 7 (lm 8 2),qb 9 7 (.call (.f 33) [.t 8]),Qp 10 7 9,Qm 11 10,Bm 12 11 1,qb 13 11 (.call (.f 34) [.t 12]),Qp 14 11 13,Qm 15 14,qb 16 15 (lm 8 2),Bm 17 15 1,qb 18 15 (.call (.f 35) [.t 16,.t 17]),Qp 19 15 18,Qm 4 19] [4] .ret)
theorem c13:FB 13 [2000002]=some (r13,s13):=by kernel_rfl
def r19:RL:=[(4,some (true,8)),(5,none)]
def s19:SCode:=qR [QB 2 27 8 0,QU 4 27,Qz 5] [1,2,4] (qR [Qz 6] [1,2,4,6] (qs (qR [Qm 11 1,Qn 12 11,Qi 13 0] [2,4,6,11,12,13] (qs (.block 0 (.loop (qR [Qv 14 .lss 13 12] [2,4,6,11,12,13,14] (qs (qX 14) (qs (qs (.block 1 (qR Zd47 [2,4,6,8,11,12,13] (qs Zd22 (qR [Ql 23 8 2,Ql 24 28 8,Q2 25 17 23 24,Qm 22 25,Qe 26 0 22,Qe 27 1 22,qa 9 (.alloc 29 Zd3),QS 18 9 26,Qm 10 27] [2,4,6,8,9,10,11,12,13] (qs (qR [Qm 28 10,Qu 29 .neq 28 0] [2,4,6,8,9,11,12,13,29] (.cond (.t 29) (.exit 1) .skip)) (qR [Ql 31 8 2,Ql 32 28 8,Q2 33 18 31 32,Qm 30 33,Qe 34 0 30,Qe 35 1 30,QS 8 2 34] [2,4,6,9,11,12,13] (qr [Qm 36 6,Ql 37 18 9,qa 38 (.buildS 29 18 1 Zd3 [(0,.t 37)]),Qw 39 29 18 224 36 38,Qm 6 39] [2,4,6,11,12,13]))))))) (qr [] [2,4,6,11,12,13])) Zd54))))) (qr [] [2,4,6]))) Zd48))
theorem c19:FB 19 []=some (r19,s19):=by kernel_rfl
def r22:RL:=[(4,some (true,8)),(5,none)]
def s22:SCode:=qR [QB 2 27 8 0,QU 4 27,Qz 5] [1,2,4] (qR [Qz 6] [1,2,4,6] (qs (qR [Qm 11 1,Qn 12 11,Qi 13 0] [2,4,6,11,12,13] (qs (.block 0 (.loop (qR [Qv 14 .lss 13 12] [2,4,6,11,12,13,14] (qs (qX 14) (qs (qs (.block 1 (qR Zd47 [2,4,6,8,11,12,13] (qs Zd22 (qR [Ql 23 8 2,Ql 24 28 8,Q2 25 18 23 24,Qm 22 25,Qe 26 0 22,Qe 27 1 22,QU 9 27,QS 8 9 26,Qm 10 27] [2,4,6,8,9,10,11,12,13] (qs (qR [Qm 28 10,Qu 29 .neq 28 0] [2,4,6,8,9,10,11,12,13,29] (.cond (.t 29) (qr [Qm 30 6,Qa 31 0 8,Qo 32 31,Qa 33 1 8,Qo 34 33,Qm 35 10,qa 36 (.build Zd7 [(0,(1,.t 32)),(1,(1,.t 34)),(2,(1,.t 35))]),qa 37 (.buildS 104 3 1 Zd7 [(0,.t 36)]),Qw 38 104 3 24 30 37,Qm 6 38] [2,4,6,9,11,12,13]) .skip)) (qr [Ql 39 8 9,QS 8 2 39] [2,4,6,11,12,13])))))) (qr [] [2,4,6,11,12,13])) Zd54))))) (qr [] [2,4,6]))) Zd48))
theorem c22:FB 22 []=some (r22,s22):=by kernel_rfl
def r28:RL:=[(2,none)]
def s28:SCode:=qR [Qb 1 18 0,qa 2 (.mov (.c (.str [])))] [1] (qs (.drawL [Qa 3 2 1,Qs 4 3 3,Qa 7 5 1,Qs 8 3 7,Qa 12 1 1,qa 13 (.loadF false 1 (.t 12)),Q1 5 27 4,qa 6 (.bin .add (.t 5) (.c (.str [32,102,114,111,109,32]))),Q1 9 27 8,Qv 10 .add 6 9,qa 11 (.bin .add (.t 10) (.c (.str [32,97,116,32]))),Q1 14 51 13,Qv 15 .add 11 14,Qm 2 15] [2]) .ret)
theorem c28:FB 28 [2000001]=some (r28,s28):=by kernel_rfl
def r31:RL:=[(2,none)]
def s31:SCode:=qR [qa 2 (.mov (.c (.str [])))] [0] (qs (qR [Qm 3 0,Qu 4 .lss 3 0] [0,4] (.cond (.t 4) (qs (qR [Qm 5 0,Qu 6 .gtr 5 (-10)] [0,6] (.cond (.t 6) (qR [Qm 7 0,qa 8 (.bin .sub (qi 48) (.t 7)),qa 9 (.conv .u8 (.t 8)),qa 10 (.buildS 5 1 1 [.int .u8 0] [(0,.t 9)]),qa 11 (.raw (.convert 107 9 (.tmp 10))),qa 12 (.bin .add (.c (.str [45])) (.t 11)),Qm 2 12] [2] .ret) .skip)) (qs (.drawT (.step (Qm 13 0) (.step (Qu 14 .quo 13 10) (.step (Qm 16 0) (.step (Qu 17 .rem 16 10) (.step (qa 18 (.bin .sub (qi 48) (.t 17))) (.step (qa 19 (.conv .u8 (.t 18))) (.both (.step (Q1 15 31 14) (.step Zd56 Zd26)) (.step Zd56 (.both (.step (Q1 15 31 14) Zd26) (.step Zd66 (.step (Q1 15 31 14) Zd51))))))))))) [2]) .ret)) .skip)) (qs (qR [Qm 23 0,Qu 24 .lss 23 10] [0,24] (.cond (.t 24) (qR [Qm 25 0,qa 26 (.bin .add (qi 48) (.t 25)),qa 27 (.conv .u8 (.t 26)),qa 28 (.buildS 5 1 1 [.int .u8 0] [(0,.t 27)]),qa 29 (.raw (.convert 107 9 (.tmp 28))),Qm 2 29] [2] .ret) .skip)) (qs (.drawT (.step (Qm 30 0) (.step (Qu 31 .quo 30 10) (.step (Qm 33 0) (.step (Qu 34 .rem 33 10) (.step (qa 35 (.bin .add (qi 48) (.t 34))) (.step (qa 36 (.conv .u8 (.t 35))) (.both (.step (Q1 32 31 31) (.step Zd55 Zd25)) (.step Zd55 (.both (.step (Q1 32 31 31) Zd25) (.step Zd65 (.step (Q1 32 31 31) Zd50))))))))))) [2]) .ret)))
theorem c31:FB 31 []=some (r31,s31):=by kernel_rfl
def r34:RL:=[(2,none)]
def s34:SCode:=qR [Qf 2] [0] (qs (qR [Qm 4 0,Qn 5 4,Qu 6 .gtr 5 8] [0,6] (.cond (.t 6) (qR [Qf 2] [2] .ret) .skip)) (qs (qR [Qi 3 0] [0,3] (qs (.block 0 (.loop (qs (qR [Qm 7 3,Qm 8 0,Qn 9 8,Qv 10 .lss 7 9] [0,3,10] (qX 10)) (qs (qs (.block 1 (qR [Qm 13 0,Qm 14 3,Qx 15 28 13 14,Qa 16 3 15,Ql 17 25 16,Q1 18 55 17,Qr 19 18] [0,3,19] (.cond (.t 19) (qR [Qf 2] [2] .ret) .skip))) (qr [] [0,3])) (qr [Qm 11 3,Qu 12 .add 11 1,Qm 3 12] [0,3]))))) (qr [] []))) (qR [Qt 2] [2] .ret)))
theorem c34:FB 34 []=some (r34,s34):=by kernel_rfl
def r43:RL:=[(4,some (true,3)),(5,none)]
def s43:SCode:=qR [Qb 2 8 0,qa 4 (.alloc 23 Zd7),Qi 5 0] [1,2,4] (qR [Ql 7 8 2,Qm 8 1,Q2 9 82 7 8,Qm 6 9] [4,6] (qs (qR [Qm 10 6,Qn 11 10] [4,6,11] (qs (.block 0 (qR [Qu 13 .eql 11 0,Qm 12 13] [4,6,11,12] (.cond (.t 12) (qR [qa 14 (.build Zd7 []),QS 3 4 14,Qi 5 7] [4,5] .ret) (qR [Qu 16 .eql 11 1,Qm 15 16] [4,6,15] (.cond (.t 15) (qR [Qm 17 6,qa 18 (.indexA 3 (.t 17) (qi 0)),Ql 19 3 18,QS 3 4 19,Qi 5 0] [4,5] .ret) .skip))))) (qr [] [4]))) (qR [qa 20 (.build Zd7 []),QS 3 4 20,Qi 5 8] [4,5] .ret)))
theorem c43:FB 43 [2000002]=some (r43,s43):=by kernel_rfl
def r46:RL:=[(0,none)]
def s46:SCode:=qR [qa 0 (.mov (.c (.sc (.map none))))] [] (qR [qa 1 (.raw (.makeMap 97 none)),⟨none,none,.raw (.insert 97 (.tmp 1) (.const (.int .i64 0)) (.func 92))⟩,⟨none,none,.raw (.insert 97 (.tmp 1) (.const (.int .i64 1)) (.func 93))⟩,⟨none,none,.raw (.insert 97 (.tmp 1) (.const (.int .i64 2)) (.func 94))⟩,⟨none,none,.raw (.insert 97 (.tmp 1) (.const (.int .i64 3)) (.func 95))⟩,⟨none,none,.raw (.insert 97 (.tmp 1) (.const (.int .i64 4)) (.func 96))⟩,⟨none,none,.raw (.insert 97 (.tmp 1) (.const (.int .i64 5)) (.func 97))⟩,⟨none,none,.raw (.insert 97 (.tmp 1) (.const (.int .i64 6)) (.func 98))⟩,Qm 2 1,Qm 0 2] [0] .ret)
theorem c46:FB 46 []=some (r46,s46):=by kernel_rfl
def r58:RL:=[(4,some (true,8)),(5,some (true,8)),(6,none)]
def s58:SCode:=qR [QB 2 27 8 0,QB 3 23 3 1,QU 4 27,QU 5 27,Qi 6 0] [2,3,4,5] (qR [qa 10 (.mkfun (.func 110) [] [.t 2]),qa 11 (.build Zd21 [(0,(1,.t 10)),(1,(1,qi 1))]),qa 12 (.mkfun (.func 112) [] [.t 2,.t 3]),qa 13 (.build Zd21 [(0,(1,.t 12)),(1,(1,qi 4))]),qa 14 (.mkfun (.func 114) [] [.t 2,.t 3]),qa 15 (.build Zd21 [(0,(1,.t 14)),(1,(1,qi 9))]),qa 16 (.buildS 155 2 3 Zd36 [(0,.t 11),(1,.t 13),(2,.t 15)]),Q1 17 109 16,Qm 7 17] [2,3,4,5,7] (qs (qR [Qm 18 7,Qu 19 .neq 18 0] [2,3,4,5,7,19] (.cond (.t 19) (qR [QA 20,QA 21,Qm 22 7,QS 8 4 20,QS 8 5 21,Qm 6 22] [4,5,6] .ret) .skip)) (qR [Ql 24 8 2,Ql 25 3 3,Q2 26 44 24 25,Qm 23 26,Qe 27 0 23,Qe 28 1 23,QU 8 27,QS 8 8 27,Qm 9 28] [2,3,4,5,8] (qs (.drawT (.both (.step (Ql 29 8 2) (.both (.step (Ql 30 3 3) Zd30) (.step (Ql 32 8 8) (.step (Ql 30 3 3) Zd19)))) (.both (.step (Ql 30 3 3) (.both (.step (Ql 29 8 2) Zd30) (.step (Ql 32 8 8) (.step (Ql 29 8 2) Zd19)))) (.step (Ql 32 8 8) (.both (.step (Ql 29 8 2) (.step (Ql 30 3 3) Zd19)) (.step (Ql 30 3 3) (.step (Ql 29 8 2) Zd19)))))) [4,5,6]) .ret))))
theorem c58:FB 58 []=some (r58,s58):=by kernel_rfl
def r61:RL:=[(4,some (true,8)),(5,none)]
def s61:SCode:=qR [Qb 2 8 0,Qb 3 18 1,QU 4 27,Qi 5 0] [2,3,4] (qR [Ql 6 8 2,Qa 7 2 3,Ql 8 3 7,Qa 9 5 3,Ql 10 3 9,Qa 11 1 3,Qo 12 11,Q4 13 62 6 8 10 12,Qe 14 0 13,Qe 15 1 13,QS 8 4 14,Qm 5 15] [4,5] .ret)
theorem c61:FB 61 [2000002,2000003]=some (r61,s61):=by kernel_rfl
def r64:RL:=[(6,some (true,8)),(7,none)]
def s64:SCode:=qR [QB 3 27 8 0,QB 4 23 3 1,QB 5 9 1 2,QU 6 27,Qi 7 0] [3,4,5,6] (qs (qR [Ql 12 8 3,Q1 13 111 12,Qr 14 13,Qm 15 14,qc 16 15 (lo 5),qc 17 15 (.call (.f 129) [.t 16]),qc 18 15 (.not (.t 17)),Qq 19 15 18] [3,4,5,6,19] (.cond (.t 19) (qR [QA 20,QS 8 6 20,Qi 7 1] [6,7] .ret) .skip)) (qR [Ql 22 8 3,Ql 23 3 4,Q2 24 44 22 23,Qm 21 24,Qe 25 0 21,Qe 26 1 21,QU 8 27,qa 9 (.alloc 4 [.bool false]),QS 8 8 25,QS 1 9 26] [3,4,5,6,8,9] (qR [qa 27 (.mkfun (.func 130) [] [.t 3,.t 4,.t 8,.t 5]),Qm 10 27] [3,4,5,6,8,9,10] (qR [qa 28 (.mkfun (.func 132) [] [.t 9]),qa 29 (.build Zd21 [(0,(1,.t 28)),(1,(1,qi 4))]),qa 30 (.mkfun (.func 133) [] [.t 8]),qa 31 (.build Zd21 [(0,(1,.t 30)),(1,(1,qi 9))]),Qm 32 10,qa 33 (.build Zd21 [(0,(1,.t 32)),(1,(1,qi 10))]),qa 34 (.buildS 155 2 3 Zd36 [(0,.t 29),(1,.t 31),(2,.t 33)]),Q1 35 109 34,Qm 11 35] [3,4,5,6,11] (qs (qR [Qm 36 11,Qu 37 .neq 36 0] [3,4,5,6,11,37] (.cond (.t 37) (qR [QA 38,Qm 39 11,QS 8 6 38,Qm 7 39] [6,7] .ret) .skip)) (qR [Ql 40 8 3,Ql 41 3 4,qa 42 (.mkfun (.func 134) [] [.t 5]),Q3 43 118 40 41 42,QS 8 6 43,Qi 7 0] [6,7] .ret))))))
theorem c64:FB 64 []=some (r64,s64):=by kernel_rfl
def r67:RL:=[(4,some (true,8)),(5,none)]
def s67:SCode:=qR [Qb 2 8 0,Qb 3 18 1,QU 4 27,Qi 5 0] [2,3,4] (qR [Ql 6 8 2,Qa 7 2 3,Ql 8 3 7,Qa 9 17 3,Qo 10 9,Q3 11 68 6 8 10,Qe 12 0 11,Qe 13 1 11,QS 8 4 12,Qm 5 13] [4,5] .ret)
theorem c67:FB 67 [2000002,2000003]=some (r67,s67):=by kernel_rfl
def r82:RL:=[(4,none)]
def s82:SCode:=qR [Qb 2 8 0,Qz 4] [1,2] (qR [Qz 5] [1,2,5] (qs (qR [Ql 8 8 2,Qm 9 1,Q2 10 143 8 9,Qn 11 10,Qi 12 0] [5,10,11,12] (qs (.block 0 (.loop (qR [Qv 13 .lss 12 11] [5,10,11,12,13] (qs (qX 13) (qs (qs (.block 1 (qR [Qx 14 8 10 12,Ql 15 8 14,QU 7 27,QS 8 7 15] [5,7,10,11,12] (qr [Qm 16 5,Qa 17 0 7,Ql 18 3 17,qa 19 (.buildS 23 3 1 Zd7 [(0,.t 18)]),Qw 20 23 3 24 16 19,Qm 5 20] [5,10,11,12]))) (qr [] [5,10,11,12])) (qr [Qu 21 .add 12 1,Qm 12 21] [5,10,11,12])))))) (qr [] [5]))) (qR [Qm 22 5,Qm 4 22] [4] .ret)))
theorem c82:FB 82 [2000002]=some (r82,s82):=by kernel_rfl
def r85:RL:=[(4,some (true,18))]
def s85:SCode:=qR [Qb 2 8 0,Qb 3 8 1,qa 4 (.alloc 29 Zd3)] [3,4] (qs (.drawL [Qa 5 0 3,Qs 6 3 5,Qa 7 6 3,qa 8 (.loadF false 1 (.t 7)),Q1 9 86 8,qa 10 (.build Zd3 [(0,(1,qi 4)),(2,(3,.t 6)),(17,(1,.t 9))]),QS 18 4 10] [4]) .ret)
theorem c85:FB 85 [2000002,2000003]=some (r85,s85):=by kernel_rfl
def r88:RL:=[(4,some (true,18))]
def s88:SCode:=qR [Qb 2 8 0,Qb 3 3 1,qa 4 (.alloc 29 Zd3)] [2,3,4] (qR [Ql 9 8 2,Ql 10 3 3,Q2 11 131 9 10,Qm 8 11,Qe 12 0 8,Qe 13 1 8,Qe 14 2 8,qa 5 (.alloc 23 Zd7),QS 3 5 12,Qm 6 13,Qm 7 14] [3,4,5,6] (qR [Ql 15 3 3,Ql 16 3 5,Qm 17 6,qa 18 (.build Zd3 [(2,(3,.t 15)),(5,(3,.t 16)),(1,(1,.t 17))]),QS 18 4 18] [4] .ret))
theorem c88:FB 88 [2000002,2000003]=some (r88,s88):=by kernel_rfl
def r91:RL:=[(4,some (true,18))]
def s91:SCode:=qR [Qb 2 8 0,Qb 3 8 1,qa 4 (.alloc 29 Zd3)] [3,4] (qR [Qa 5 0 3,Ql 6 3 5,Qa 7 4 3,Qo 8 7,qa 9 (.build Zd3 [(0,(1,qi 3)),(2,(3,.t 6)),(16,(1,.t 8))]),QS 18 4 9] [4] .ret)
theorem c91:FB 91 [2000002,2000003]=some (r91,s91):=by kernel_rfl
def r94:RL:=[(6,some (true,8)),(7,none)]
def s94:SCode:=qR [Qb 3 8 0,Qb 4 8 1,Qb 5 28 2,QU 6 27,Qi 7 0] [3,4,5,6] (qR [Qa 11 6 4,Qo 12 11,Qa 13 3 5,Qa 14 13 13,Qo 15 14,Qa 16 3 5,Qa 17 14 16,Qo 18 17,Qa 19 3 5,Qa 20 4 19,Qo 21 20,Qa 22 0 5,Qo 23 22,Qa 24 1 5,Qo 25 24,Q6 26 157 12 15 18 21 23 25,Qm 10 26,Qe 27 0 10,Qe 28 1 10,qa 8 (.alloc 24 [.nil]),QS 1 8 27,Qm 9 28] [3,4,6,8,9] (qs (qR [Qm 29 9,Qu 30 .neq 29 0] [3,4,6,8,9,30] (.cond (.t 30) (qR [Ql 31 8 3,Qm 32 9,QS 8 6 31,Qm 7 32] [6,7] .ret) .skip)) (qR [Ql 33 8 3,Qa 34 0 4,Ql 35 3 34,qa 36 (.mkfun (.func 158) [] [.t 8]),Q3 37 153 33 35 36,QS 8 6 37,Qi 7 0] [6,7] .ret)))
theorem c94:FB 94 [2000003,2000004,2000005]=some (r94,s94):=by kernel_rfl
def r97:RL:=[(6,some (true,8)),(7,none)]
def s97:SCode:=qR [Qb 3 8 0,QB 4 27 8 1,QB 5 54 28 2,QU 6 27,Qi 7 0] [3,4,5,6] (qR [Ql 14 8 3,Qa 15 0 4,Ql 16 3 15,Q2 17 131 14 16,Qm 13 17,Qe 18 0 13,Qe 19 1 13,Qe 20 2 13,qa 8 (.alloc 23 Zd7),QS 3 8 18,Qm 9 19,Qm 10 20] [3,4,5,6,8] (qR [Ql 22 8 3,Ql 23 3 8,Q2 24 44 22 23,Qm 21 24,Qe 25 0 21,Qe 26 1 21,QU 11 27,QS 8 11 25,Qm 12 26] [3,4,5,6,11] (qR [Qa 27 3 5,Qa 28 15 27,Qo 29 28,Qa 30 4 4,QS 1 30 29] [3,4,5,6,11] (qs (qR [Ql 31 8 11,Ql 32 8 4,Q2 33 146 31 32,Qu 34 .eql 33 10] [3,4,5,6,34] (.cond (.t 34) (qR [Ql 35 8 3,QS 8 6 35,Qi 7 10] [6,7] .ret) .skip)) (qR [Ql 36 8 3,Qa 37 0 4,Ql 38 3 37,qa 39 (.mkfun (.func 163) [] [.t 5]),Q3 40 153 36 38 39,QS 8 6 40,Qi 7 0] [6,7] .ret)))))
theorem c97:FB 97 [2000003]=some (r97,s97):=by kernel_rfl
def r109:RL:=[(2,none)]
def s109:SCode:=qR [Qi 2 0] [0] (qs (qR [Qm 5 0,Qn 6 5,Qi 7 0] [5,6,7] (qs (.block 0 (.loop (qR [Qv 8 .lss 7 6] [5,6,7,8] (qs (qX 8) (qs (qs (.block 1 (qR [Qx 9 2 5 7,Ql 10 2 9,qa 4 (.alloc 155 Zd21),QS 2 4 10] [4,5,6,7] (qR [Qa 11 0 4,Qo 12 11,qa 13 (.call (.t 12) [])] [4,5,6,7,13] (.cond (.t 13) (qR [Qa 14 1 4,Qo 15 14,Qm 2 15] [2] .ret) .skip)))) (qr [] [5,6,7])) (qr [Qu 16 .add 7 1,Qm 7 16] [5,6,7])))))) (qr [] []))) (qR [Qi 2 0] [2] .ret))
theorem c109:FB 109 []=some (r109,s109):=by kernel_rfl
def r112:RL:=[(2,none)]
def s112:SCode:=qR [Qf 2] [0,1] (qR [Ql 3 8 0,Ql 4 3 1,Q2 5 113 3 4,Qr 6 5,Qm 2 6] [2] .ret)
theorem c112:FB 112 []=some (r112,s112):=by kernel_rfl
def r115:RL:=[(4,some (true,8))]
def s115:SCode:=qR [Qb 2 8 0,Qb 3 3 1,QU 4 27] [2,3,4] (qR [Ql 9 8 2,Ql 10 3 3,Q2 11 131 9 10,Qm 8 11,Qe 12 0 8,Qe 13 1 8,Qe 14 2 8,qa 5 (.alloc 23 Zd7),qa 6 (.alloc 3 [.int .i64 0]),QS 3 5 12,QS 1 6 13,Qm 7 14] [2,4,5,6] (qR [Ql 15 8 2,Ql 16 3 5,qa 17 (.mkfun (.func 201) [] [.t 6]),Q3 18 118 15 16 17,QS 8 4 18] [4] .ret))
theorem c115:FB 115 [2000002,2000003]=some (r115,s115):=by kernel_rfl
def r118:RL:=[(6,some (true,8))]
def s118:SCode:=qR [Qb 3 8 0,Qb 4 3 1,QU 6 27] [2,3,4,6] (qs (.drawT (.step (Qs 10 8 3) (.step (Qs 12 3 4) (.step (Qm 13 2) (.both (.step (Q1 11 116 10) (.both (.step (Q3 14 211 11 12 13) (.step (Qm 9 14) (.step (Qe 15 0 9) (.step (Qe 16 1 9) (.step (QU 7 27) Zd58))))) (.step (QU 7 27) Zd20))) (.step (QU 7 27) (.step (Q1 11 116 10) Zd20)))))) [6,7]) (qR [Ql 17 8 7,QS 8 6 17] [6] .ret))
theorem c118:FB 118 [2000003,2000004]=some (r118,s118):=by kernel_rfl
def r121:RL:=[(3,none)]
def s121:SCode:=qR [Qf 3] [0,1,2] (qR [Ql 4 8 0,Ql 5 3 1,Q2 6 113 4 5,Qr 7 6,Qm 8 7,qc 9 8 (lm 8 0),qc 10 8 (lm 3 2),qc 11 8 (.call (.f 113) [.t 9,.t 10]),qc 12 8 (.not (.t 11)),Qq 13 8 12,Qm 3 13] [3] .ret)
theorem c121:FB 121 []=some (r121,s121):=by kernel_rfl
def r124:RL:=[(4,none)]
def s124:SCode:=qR [Qb 2 8 0,Qb 3 3 1,Qi 4 0] [2,3] (qR [Ql 5 8 2,Ql 6 3 3,Q2 7 214 5 6,Qn 8 7,Qm 4 8] [4] .ret)
theorem c124:FB 124 [2000002,2000003]=some (r124,s124):=by kernel_rfl
def r127:RL:=[(2,none)]
def s127:SCode:=qR [Qf 2] [0,1] (qR [Qa 3 7 0,Qo 4 3,Qa 5 3 1,Qo 6 5,Qa 7 4 1,Qo 8 7,Q3 9 128 4 6 8,Qm 2 9] [2] .ret)
theorem c127:FB 127 []=some (r127,s127):=by kernel_rfl
def r130:RL:=[(4,none)]
def s130:SCode:=qR [Qf 4] [0,1,2,3] (qR [Ql 11 8 0,Ql 12 3 1,Q2 13 131 11 12,Qm 10 13,Qe 14 0 10,Qe 15 1 10,Qe 16 2 10,qa 5 (.alloc 23 Zd7),QS 3 5 14,Qm 6 15,Qm 7 16] [0,2,3,5,7] (qR [Ql 18 8 0,Ql 19 3 5,Q2 20 44 18 19,Qm 17 20,Qe 21 0 17,Qe 22 1 17,QU 8 27,QS 8 8 21,Qm 9 22] [2,3,7,8] (qR [Qa 23 4 2,Qo 24 23,Qo 25 3,Qv 26 .eql 24 25,Qm 27 26,Ym 28 27 7,Ym 29 27 28,qb 30 29 (fa 7 8),qb 31 29 (lo 30),qb 32 29 (fa 3 2),qb 33 29 (lo 32),qb 34 29 (lo 3),qb 35 29 (.call (.f 128) [.t 31,.t 33,.t 34]),qc 36 27 (.pick (.t 29) (.t 35) qf),Qq 37 27 36,Qm 4 37] [4] .ret)))
theorem c130:FB 130 []=some (r130,s130):=by kernel_rfl
def r133:RL:=[(1,none)]
def s133:SCode:=qR [Qf 1] [0] (qR [Qa 2 3 0,Qo 3 2,Qu 4 .eql 3 0,Qm 1 4] [1] .ret)
theorem c133:FB 133 []=some (r133,s133):=by kernel_rfl
def r136:RL:=[(3,some (true,8))]
def s136:SCode:=qR [QB 2 27 8 0,QU 3 27] [1,2,3] (qR [Qo 4 1,Q1 5 86 4,Qa 6 6 2,QS 1 6 5] [2,3] (qR [Ql 7 8 2,QS 8 3 7] [3] .ret))
theorem c136:FB 136 []=some (r136,s136):=by kernel_rfl
def r145:RL:=[(6,some (true,8))]
def s145:SCode:=qR [Qb 3 8 0,QU 6 27] [1,2,3,6] (qR [Qm 8 1,Qm 9 2,qa 10 (.build Zd6 [(0,(1,.t 8)),(1,(1,.t 9))]),qa 7 (.alloc 216 Zd6),QS 4 7 10] [3,6,7] (qR [Ql 11 8 3,Q2 12 235 7 11,QS 8 6 12] [6] .ret))
theorem c145:FB 145 [2000003]=some (r145,s145):=by kernel_rfl
def r151:RL:=[(3,none)]
def s151:SCode:=qR [Qb 2 3 0,Qf 3] [1,2] (qR [Qo 4 1,Ql 5 3 2,Q2 6 152 4 5,Qm 3 6] [3] .ret)
theorem c151:FB 151 [2000002]=some (r151,s151):=by kernel_rfl
def r154:RL:=[]
def s154:SCode:=.drawT (.step (Qm 4 0) (.step (Qm 5 0) (.step (Qc 6 5) (.step (Qa 7 7 6) (.both (.step (Qo 8 7) (.both (.step (Qo 9 1) (.step (Ql 10 8 2) Zd61)) (.step (Ql 10 8 2) Zd34))) (.both (.step (Qo 9 1) (.both (.step (Qo 8 7) (.step (Ql 10 8 2) Zd61)) (.step (Ql 10 8 2) Zd35))) (.step (Ql 10 8 2) (.both (.step (Qo 8 7) Zd34) (.both (.step (Qo 9 1) Zd35) (.step Zd15 (.both (.step (Qo 8 7) (.step (Qo 9 1) Zd5)) (.step (Qo 9 1) (.step (Qo 8 7) Zd5))))))))))))) []
theorem c154:FB 154 []=some (r154,s154):=by kernel_rfl
def r157:RL:=[(12,none),(13,none)]
def s157:SCode:=qR [Qz 12,Qi 13 0] [0,1,2,3,4,5] (qs (qR [Qm 15 1,Qn 16 15,Qu 17 .eql 16 0,Qm 18 17,Ym 19 18 3,qc 20 18 (.bin .lss (.t 19) (qi 0)),Qq 21 18 20] [0,1,2,3,4,5,21] (.cond (.t 21) (qR [Qz 12,Qi 13 1] [12,13] .ret) .skip)) (qR [Qm 22 0,Qm 23 1,Qm 24 3,Q3 25 245 22 23 24,Qm 14 25] [0,1,2,4,5,14] (qs (qR [Qm 26 14,Qn 27 26,Qu 28 .eql 27 0] [0,1,2,4,5,14,28] (.cond (.t 28) (qR [Qz 12,Qi 13 4] [12,13] .ret) .skip)) (qR [Qm 29 0,Qm 30 14,Qm 31 1,Qn 32 31,Qm 33 2,Qm 34 4,Qm 35 5,Q6 36 246 29 30 32 33 34 35,Qe 37 0 36,Qe 38 1 36,Qm 12 37,Qm 13 38] [12,13] .ret))))
theorem c157:FB 157 []=some (r157,s157):=by kernel_rfl
def r160:RL:=[]
def s160:SCode:=qr [Qm 3 0,Qo 4 1,Qc 5 3,Qa 6 6 5,QS 1 6 4] []
theorem c160:FB 160 []=some (r160,s160):=by kernel_rfl
def r163:RL:=[]
def s163:SCode:=qr [Qm 3 0,Qa 4 3 1,Qa 5 15 4,Qo 6 5,Qc 7 3,Qa 8 4 7,QS 1 8 6] []
theorem c163:FB 163 []=some (r163,s163):=by kernel_rfl
def r199:RL:=[(2,none)]
def s199:SCode:=qR [Qb 1 3 0,Qf 2] [1] (qR [Ql 3 3 1,qa 4 (.build Zd7 []),qa 5 (.eqs false [1,1,1] (.t 3) (.t 4)),Qm 2 5] [2] .ret)
theorem c199:FB 199 [2000001]=some (r199,s199):=by kernel_rfl
def r202:RL:=[(6,none)]
def s202:SCode:=qR [Qz 6] [0,1,2] (qR [Qm 8 0,Qm 9 1,Qm 10 2,Qm 11 0,Qn 12 11,qa 13 (.raw (.slice 25 (.tmp 8) (some (.tmp 9)) (some (.tmp 10)) (some (.tmp 12))))] [0,1,2] (qs (qR [Qm 14 1,Qm 15 2,Qv 16 .eql 14 15] [0,1,2,16] (.cond (.t 16) (qR [Qm 17 0,Qm 6 17] [6] .ret) .skip)) (qR [Qm 18 0,Qn 19 18,Qm 7 19] [0,1,2,7] (qs (.drawT (.step (Qm 20 0) (.step (Qm 21 1) (.step (Qm 23 0) (.step (Qm 24 2) (.both (.step Zd38 (.step Zd37 Zd23)) (.step Zd37 (.step Zd38 Zd23))))))) [0,7]) (qR [Qm 27 0,Qm 28 0,Qn 29 28,Qm 30 7,qa 31 (.raw (.slice 25 (.tmp 27) (some (.tmp 29)) (some (.tmp 30)) none)),⟨none,none,.raw (.call (.mk (.builtin .clear) #[.tmp 31] #[25]))⟩] [0] (qR [Qm 32 0,Qm 6 32] [6] .ret))))))
theorem c202:FB 202 [3000022,3000025,3000026,3000031]=some (r202,s202):=by kernel_rfl
def r205:RL:=[(3,none)]
def s205:SCode:=qR [Qb 2 3 0,Qf 3] [1,2] (qR [Ql 4 8 1,Ql 5 3 2,Q2 6 113 4 5,Qm 3 6] [3] .ret)
theorem c205:FB 205 [2000002]=some (r205,s205):=by kernel_rfl
def r208:RL:=[(2,none)]
def s208:SCode:=qR [Qf 2] [0,1] (qR [Qa 3 3 0,Qo 4 3,Qa 5 3 1,Qo 6 5,Q2 7 122 4 6,Qr 8 7,Qm 2 8] [2] .ret)
theorem c208:FB 208 []=some (r208,s208):=by kernel_rfl
def r211:RL:=[(6,some (true,8)),(7,none)]
def s211:SCode:=qR [QB 3 27 8 0,Qb 4 3 1,QU 6 27,Qf 7] [2,3,4,6] (qs (qR [Qa 12 0 3,Ql 13 3 12,Ql 14 3 4,qa 15 (.eqs false [1,1,1] (.t 13) (.t 14))] [2,3,4,6,15] (.cond (.t 15) (qR [Qm 16 2,Ql 17 8 3,qa 18 (.call (.t 16) [.t 17]),QS 8 6 18,Qt 7] [6,7] .ret) .skip)) (qs (qR [Qa 19 7 3,Qo 20 19,Qn 21 20,Qi 22 0] [2,3,4,6,20,21,22] (qs (.block 0 (.loop (qR [Qv 23 .lss 22 21] [2,3,4,6,20,21,22,23] (qs (qX 23) (qs (qs (.block 1 (qR [Qm 24 22,Qx 25 8 20 22,Ql 26 8 25,QU 9 27,Qm 8 24,QS 8 9 26] [2,3,4,6,8,9,20,21,22] (qR [Ql 28 8 9,Ql 29 3 4,Qm 30 2,Q3 31 211 28 29 30,Qm 27 31,Qe 32 0 27,Qe 33 1 27,QU 10 27,QS 8 10 32,Qm 11 33] [2,3,4,6,8,10,11,20,21,22] (qR [Qm 34 11] [2,3,4,6,8,10,20,21,22,34] (.cond (.t 34) (qR [Qa 35 7 3,Qo 36 35,Q1 37 203 36,Qa 38 7 3,QS 1 38 37] [3,6,8,10] (qR [Qa 39 7 3,Qo 40 39,Qm 41 8,Ql 42 8 10,Qx 43 8 40 41,QS 8 43 42] [3,6] (qR [Ql 44 8 3,QS 8 6 44,Qt 7] [6,7] .ret))) .skip))))) (qr [] [2,3,4,6,20,21,22])) (qr [Qu 45 .add 22 1,Qm 22 45] [2,3,4,6,20,21,22])))))) (qr [] [3,6]))) (qR [Ql 46 8 3,QS 8 6 46,Qf 7] [6,7] .ret)))
theorem c211:FB 211 [2000004]=some (r211,s211):=by kernel_rfl
def r214:RL:=[(4,none)]
def s214:SCode:=qR [Qb 2 8 0,Qb 3 3 1,Qz 4] [2,3] (qR [Qz 5] [2,3,5] (qR [Ql 8 8 2,Ql 9 3 3,Q2 10 83 8 9,Qm 6 10] [5,6] (qs (qR [Qm 11 6,Qn 12 11,Qu 13 .sub 12 2,Qm 7 13] [5,6,7] (qs (.block 0 (.loop (qs (qR [Qm 14 7,Qu 15 .geq 14 0] [5,6,7,15] (qX 15)) (qs (qs (.block 1 (qr [Qm 18 5,Qm 19 6,Qm 20 7,Qx 21 8 19 20,Qa 22 0 21,Ql 23 3 22,qa 24 (.buildS 23 3 1 Zd7 [(0,.t 23)]),Qw 25 23 3 24 18 24,Qm 5 25] [5,6,7])) (qr [] [5,6,7])) (qr [Qm 16 7,Qu 17 .sub 16 1,Qm 7 17] [5,6,7]))))) (qr [] [5]))) (qR [Qm 26 5,Qm 4 26] [4] .ret))))
theorem c214:FB 214 [2000002,2000003]=some (r214,s214):=by kernel_rfl
def r220:RL:=[(4,none)]
def s220:SCode:=qR [Qi 4 0] [0,1] (qs (qR [Qm 6 0,Qn 7 6,Qi 8 0] [0,1,7,8] (qs (.block 0 (.loop (qR [Qv 9 .lss 8 7] [0,1,7,8,9] (qs (qX 9) (qs (qs (.block 1 (qR [Qm 10 8,Qm 5 10] [0,1,5,7,8] (qR [Qm 11 1,Qm 12 0,Qm 13 5,Qx 14 8 12 13,Ql 15 8 14,qa 16 (.call (.t 11) [.t 15])] [0,1,5,7,8,16] Zd49))) (qr [] [0,1,7,8])) (qr [Qu 18 .add 8 1,Qm 8 18] [0,1,7,8])))))) (qr [] []))) (qR [Qi 4 (-1)] [4] .ret))
theorem c220:FB 220 []=some (r220,s220):=by kernel_rfl
def r226:RL:=[(1,none)]
def s226:SCode:=qR [Qf 1] [0] (qR [Qo 2 0,Qr 3 2,Qm 1 3] [1] .ret)
theorem c226:FB 226 []=some (r226,s226):=by kernel_rfl
def r229:RL:=[]
def s229:SCode:=qR [Qb 2 8 0] [1,2] (qR [Qm 6 1,Ql 7 8 2,qa 8 (.call (.t 6) [.t 7])] [1,2] (qR [Qa 9 7 2,Qo 10 9,Qn 11 10,Qi 12 0] [1,10,11,12] (qs (.block 0 (.loop (qR [Qv 13 .lss 12 11] [1,10,11,12,13] (qs (qX 13) (qs (qs (.block 1 (qR [Qx 14 8 10 12,Ql 15 8 14,QU 5 27,QS 8 5 15] [1,5,10,11,12] (qr [Ql 16 8 5,Qm 17 1,Q2 18 229 16 17] [1,10,11,12]))) (qr [] [1,10,11,12])) (qr [Qu 19 .add 12 1,Qm 12 19] [1,10,11,12])))))) (qr [] []))))
theorem c229:FB 229 [2000002]=some (r229,s229):=by kernel_rfl
def r232:RL:=[(6,some (true,3)),(7,none),(8,none)]
def s232:SCode:=qR [Qb 3 8 0,qa 6 (.alloc 23 Zd7),Qi 7 0,Qi 8 0] [1,2,3,6] (qs (qR [Qm 12 2,Q1 13 233 12,Qr 14 13] [1,2,3,6,14] (.cond (.t 14) (qR [qa 15 (.build Zd7 []),QS 3 6 15,Qi 7 0,Qi 8 1] [6,7,8] .ret) .skip)) (qR [Ql 17 8 3,Qm 18 1,Q2 19 43 17 18,Qm 16 19,Qe 20 0 16,Qe 21 1 16,qa 9 (.alloc 23 Zd7),QS 3 9 20,Qm 10 21] [2,3,6,9,10] (qs (qR [Qm 22 10,Qu 23 .neq 22 0] [2,3,6,9,10,23] (.cond (.t 23) (qR [qa 24 (.build Zd7 []),Qm 25 10,QS 3 6 24,Qi 7 0,Qm 8 25] [6,7,8] .ret) .skip)) (qs (.drawT (.step (Qm 28 2) (.step (Qs 30 8 3) (.both (.step (Q0 27 273) (.both (.step Zd13 (.both (.step (Ql 31 3 9) Zd11) (.step Zd18 (.step (Ql 31 3 9) Zd1)))) (.both (.step (Ql 31 3 9) Zd43) (.step Zd18 Zd31)))) (.both (.step (Ql 31 3 9) (.both (.step (Q0 27 273) Zd43) (.step Zd18 (.step (Q0 27 273) Zd63)))) (.step Zd18 (.both (.step (Q0 27 273) Zd31) (.step (Ql 31 3 9) (.step (Q0 27 273) Zd63)))))))) [6,10,11]) (qs (qR [Qm 35 10,Qu 36 .neq 35 0] [6,10,11,36] (.cond (.t 36) (qR [qa 37 (.build Zd7 []),Qm 38 10,QS 3 6 37,Qi 7 0,Qm 8 38] [6,7,8] .ret) .skip)) (qs (.drawT (.step (Qa 39 0 11) (.step (Qa 41 3 11) (.both (.step (Ql 40 3 39) (.both (.step (Qo 42 41) (.step (QS 3 6 40) Zd33)) (.step (QS 3 6 40) (.step (Qo 42 41) Zd33)))) (.step (Qo 42 41) (.step (Ql 40 3 39) (.step (QS 3 6 40) Zd33)))))) [6,7,8]) .ret))))))
theorem c232:FB 232 [2000003]=some (r232,s232):=by kernel_rfl
def r235:RL:=[(4,some (true,8))]
def s235:SCode:=qR [QB 3 27 8 1,QU 4 27] [0,3,4] (qR [Qm 7 0,Qc 8 7,Qa 9 2 8,Qo 10 9,Qu 11 .add 10 1,Qc 12 7,Qa 13 2 12,QS 1 13 11] [0,3,4] (qs (.drawT (.step (Qm 14 0) (.step (Qc 15 14) (.step (Qa 16 0 15) (.step (Qm 18 0) (.step (Qc 19 18) (.step (Qa 20 1 19) (.step (Qm 22 0) (.step (Qc 23 22) (.step (Qa 24 2 23) (.both (.step (Qo 17 16) (.both (.step (Qo 21 20) (.step (Qo 25 24) Zd9)) (.step (Qo 25 24) (.step (Qo 21 20) Zd9)))) (.both (.step (Qo 21 20) (.both (.step (Qo 17 16) (.step (Qo 25 24) Zd9)) (.step (Qo 25 24) (.step (Qo 17 16) Zd9)))) (.step (Qo 25 24) (.both (.step (Qo 17 16) (.step (Qo 21 20) Zd9)) (.step (Qo 21 20) (.step (Qo 17 16) Zd9))))))))))))))) [0,3,4]) (qR [Qm 28 0,Qa 29 5 3,Qo 30 29,Q2 31 274 28 30,Qa 32 5 3,QS 1 32 31] [0,3,4] (qR [Qm 33 0,Qa 34 6 3,Qo 35 34,Q2 36 274 33 35,Qa 37 6 3,QS 1 37 36] [0,3,4] (qR [Qa 38 7 3,Qo 39 38,Qn 40 39,qa 41 (.raw (.makeSlice 25 (.tmp 40) (.tmp 40))),Qm 5 41] [0,3,4,5] (qR [Qm 42 5,Qa 43 7 3,Qo 44 43,qa 45 (.raw (.call (.mk (.builtin .copy) #[.tmp 42,.tmp 44] #[25,25])))] [0,3,4,5] (qs (qR [Qm 46 5,Qn 47 46,Qi 48 0] [0,3,4,5,47,48] (qs (.block 0 (.loop (qR [Qv 49 .lss 48 47] [0,3,4,5,47,48,49] (qs (qX 49) (qs (qs (.block 1 (qR [Qm 50 48,Qm 6 50] [0,3,4,5,6,47,48] (qr [Qm 51 5,Qm 52 6,Qm 53 0,Qm 54 5,Qm 55 6,Qx 56 8 54 55,Ql 57 8 56,Q2 58 235 53 57,Qx 59 8 51 52,QS 8 59 58] [0,3,4,5,47,48]))) (qr [] [0,3,4,5,47,48])) (qr [Qu 60 .add 48 1,Qm 48 60] [0,3,4,5,47,48])))))) (qr [] [3,4,5]))) (qR [Qm 61 5,Qa 62 7 3,QS 1 62 61] [3,4] (qR [Ql 63 8 3,QS 8 4 63] [4] .ret)))))))))
theorem c235:FB 235 []=some (r235,s235):=by kernel_rfl
def r241:RL:=[(4,none)]
def s241:SCode:=qR [Qb 3 3 1,Qi 4 0] [0,3] (qs (qR [Qm 6 0,Qn 7 6,Qi 8 0] [0,3,7,8] (qs (.block 0 (.loop (qR [Qv 9 .lss 8 7] [0,3,7,8,9] (qs (qX 9) (qs (qs (.block 1 (qR [Qm 10 8,Qm 5 10] [0,3,5,7,8] (qs (.drawL [Qs 11 3 3,Qm 12 0,Qm 13 5,Qx 14 3 12 13,Ql 15 3 14,qa 16 (.eqs false [1,1,1] (.t 11) (.t 15))] [0,3,5,7,8,16]) Zd49))) (qr [] [0,3,7,8])) (qr [Qu 18 .add 8 1,Qm 8 18] [0,3,7,8])))))) (qr [] []))) (qR [Qi 4 (-1)] [4] .ret))
theorem c241:FB 241 [2000003]=some (r241,s241):=by kernel_rfl
def r244:RL:=[]
def s244:SCode:=.drawT (.step (Qm 3 0) (.step (Qm 4 0) (.step (Qc 5 4) (.step (Qa 6 7 5) (.both (.step (Qo 7 6) (.both (.step (Qo 8 1) (.step (Qo 9 1) (.step Zd53 Zd12))) (.step (Qo 9 1) (.step Zd53 (.step (Qo 8 1) Zd12))))) (.both (.step (Qo 8 1) (.both (.step (Qo 7 6) (.step (Qo 9 1) (.step Zd53 Zd12))) (.step (Qo 9 1) (.step Zd53 (.step (Qo 7 6) Zd12))))) (.step (Qo 9 1) (.step Zd53 (.both (.step (Qo 7 6) (.step (Qo 8 1) Zd12)) (.step (Qo 8 1) (.step (Qo 7 6) Zd12))))))))))) []
theorem c244:FB 244 []=some (r244,s244):=by kernel_rfl
def r247:RL:=[(2,none)]
def s247:SCode:=qR [Qz 2] [0] (qs (qR [Qm 3 0,qa 4 (.eqnil 0 false (.t 3))] [0,4] (.cond (.t 4) (qR [Qz 2] [2] .ret) .skip)) (qR [qa 5 (.raw (.buildSlice 196 0 #[])),Qm 6 0,qa 7 (.raw (.call (.mk (.builtin .append) #[.tmp 5,.tmp 6] #[196,196]))),Qm 2 7] [2] .ret))
theorem c247:FB 247 [3000005,3000007]=some (r247,s247):=by kernel_rfl
def r274:RL:=[(4,none)]
def s274:SCode:=qR [Qz 4] [0,1] (qs (.drawT (.step (Qm 6 1) (.step (Qm 8 0) (.step (Qc 9 8) (.step (Qa 10 0 9) (.step (Qm 12 0) (.step (Qc 13 12) (.step (Qa 14 1 13) (.step (Qm 16 0) (.step (Qc 17 16) (.step (Qa 18 3 17) (.both (.step (Q1 7 277 6) (.both (.step (Qo 11 10) Zd44) (.both (.step (Qo 15 14) Zd46) (.step (Qo 19 18) Zd45)))) (.both (.step (Qo 11 10) (.both (.step (Q1 7 277 6) Zd44) (.both (.step (Qo 15 14) Zd42) (.step (Qo 19 18) Zd41)))) (.both (.step (Qo 15 14) (.both (.step (Q1 7 277 6) Zd46) (.both (.step (Qo 11 10) Zd42) (.step (Qo 19 18) Zd40)))) (.step (Qo 19 18) (.both (.step (Q1 7 277 6) Zd45) (.both (.step (Qo 11 10) Zd41) (.step (Qo 15 14) Zd40))))))))))))))))) [0,5]) (qR [Qm 21 0,Qc 22 21,Qa 23 3 22,Qo 24 23,Qm 25 5,Qn 26 25,Qv 27 .add 24 26,Qc 28 21,Qa 29 3 28,QS 1 29 27] [5] (qR [Qm 30 5,Qm 4 30] [4] .ret)))
theorem c274:FB 274 []=some (r274,s274):=by kernel_rfl
def r277:RL:=[(2,none)]
def s277:SCode:=qR [Qz 2] [0] (qR [Qz 3] [0,3] (qs (qR [Qm 6 0,Qn 7 6,Qi 8 0] [3,6,7,8] (qs (.block 0 (.loop (qR [Qv 9 .lss 8 7] [3,6,7,8,9] (qs (qX 9) (qs (qs (.block 1 (qR [Qx 10 4 6 8,Ql 11 4 10,qa 5 (.alloc 33 [.str [],.int .i64 0,.int .i64 0,.int .i64 0]),QS 4 5 11] [3,5,6,7,8] (qr [Qm 12 3,Qa 13 0 5,Qo 14 13,qa 15 (.buildS 9 1 1 [.str []] [(0,.t 14)]),Qw 16 9 1 16 12 15,Qm 3 16] [3,6,7,8]))) (qr [] [3,6,7,8])) (qr [Qu 17 .add 8 1,Qm 8 17] [3,6,7,8])))))) (qr [] [3]))) (qR [Qm 18 3,Qm 2 18] [2] .ret)))
theorem c277:FB 277 []=some (r277,s277):=by kernel_rfl
def r298:RL:=[(4,some (true,4)),(5,none)]
def s298:SCode:=qR Zd64 [2,3,4] (qR [Ql 6 8 2,Ql 7 3 3,qa 8 (.call (.f 299) [.t 6,.t 7,.f 300]),Qe 9 0 8,Qe 10 1 8,QS 4 4 9,Qm 5 10] [4,5] .ret)
theorem c298:FB 298 [2000002,2000003]=some (r298,s298):=by kernel_rfl
def r301:RL:=[(4,some (true,4)),(5,none)]
def s301:SCode:=qR Zd64 [2,3,4] (qR [Ql 6 8 2,Ql 7 3 3,qa 8 (.call (.f 299) [.t 6,.t 7,.f 302]),Qe 9 0 8,Qe 10 1 8,QS 4 4 9,Qm 5 10] [4,5] .ret)
theorem c301:FB 301 [2000002,2000003]=some (r301,s301):=by kernel_rfl
def r304:RL:=[(6,some (true,4)),(7,none)]
def s304:SCode:=qR [Qb 3 8 0,Qb 4 3 1,qa 6 (.alloc 212 Zd6),Qi 7 0] [2,3,4,6] (qR [Ql 12 8 3,Ql 13 3 4,Q2 14 131 12 13,Qm 11 14,Qe 15 0 11,Qe 16 1 11,Qe 17 2 11,qa 8 (.alloc 23 Zd7),QS 3 8 15,Qm 9 16,Qm 10 17] [2,6,8,9,10] (qs (qR [Qm 18 10,Qr 19 18] [2,6,8,9,19] (.cond (.t 19) (qR [qa 20 (.build Zd6 []),QS 4 6 20,Qi 7 9] [6,7] .ret) .skip)) (qR [Ql 21 3 8,Qm 22 9,Qm 23 2,Qv 24 .add 22 23,qa 25 (.build Zd6 [(0,(3,.t 21)),(3,(1,.t 24))]),QS 4 6 25,Qi 7 0] [6,7] .ret)))
theorem c304:FB 304 [2000003,2000004]=some (r304,s304):=by kernel_rfl
end Go.Av
