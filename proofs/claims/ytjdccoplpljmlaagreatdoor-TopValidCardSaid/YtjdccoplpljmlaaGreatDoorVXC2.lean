/-
  THE TRANSLATED CODE. Printed by mkcode2.py.
-/
import Derived.Test.YtjdccoplpljmlaaGreatDoorVXDattoXC1
import Derived.Test.YtjdccoplpljmlaaGreatDoorVXAv26toXGlob
import Derived.Test.YtjdccoplpljmlaaGreatDoorProg
namespace Go.Av
open Go List
set_option linter.unusedSimpArgs false
set_option linter.unusedVariables false
abbrev Za16:List SOper:=[Qv 18 .lss 17 16]
abbrev Za15:SCode:=qr [] [1,2,15,16,17]
abbrev Za0:List AV:=[.sc .nilFunc,.sc .nilFunc]
abbrev Za14:SOper:=qa 3 (.alloc 149 Za0)
abbrev Za13:SOper:=qa 12 (.buildS 9 1 1 [.str []] [(0,.t 11)])
abbrev Za12:DT:=.step (QS 2 3 11) (.step (Qm 4 12) .done)
abbrev Za4:DT:=.step (Qx 48 8 40 41) (.step (QS 8 48 47) .done)
abbrev Za11:DT:=.step (Q1 47 142 46) Za4
abbrev Za10:SOper:=qa 10 (.raw (.lookup 151 (.tmp 7) (.tmp 9) true))
abbrev Za9:List SOper:=[Qb 1 25 0,qa 2 (.alloc 61 zItm)]
abbrev Za8:DT:=.step (Qw 13 9 1 16 8 12) (.step (QS 1 2 13) .done)
abbrev Za7:List SOper:=[Qb 1 25 0,Qf 2]
abbrev Za6:DT:=.step Za13 Za8
abbrev Za5:SCode:=qR [Qf 2] [2] .ret
abbrev Za3:DT:=.step Za10 (.step (Qm 6 10) (.step (Qe 11 0 6) (.step (Qe 12 1 6) Za12)))
abbrev Za2:List AV:=[.int .i64 0,.int .i64 0,.int .i64 0]
abbrev Za1:DT:=.step (Qa 12 5 1) (.step (Q1 11 202 10) (.step (QS 1 12 8) (.step (Qa 13 6 1) (.step (QS 1 13 11) .done))))
def r10:RL:=[(2,none)]
def s10:SCode:=qR [Qb 1 8 0,Qz 2] [1] (qR [qa 3 (.alloc 32 [.nil])] [1,3] (qR [Ql 4 8 1,qa 5 (.mkfun (.func 41) [] [.t 3]),Q2 6 36 4 5] [3] (qR [Qo 7 3,Qm 2 7] [2] .ret)))
theorem c10:FB 10 [2000001]=some (r10,s10):=by kernel_rfl
def r34:RL:=[(2,none)]
def s34:SCode:=qR [Qb 1 8 0,Qi 2 0] [1] (qR [Qi 3 1] [1,3] (qs (qR [Qi 4 0] [1,3,4] (qs (.block 0 (.loop (qs (qR [Qm 5 4,Qa 6 7 1,Qo 7 6,Qn 8 7,Qv 9 .lss 5 8] [1,3,4,9] (qX 9)) (qs (qs (.block 1 (qr [Qm 12 3,Qa 13 7 1,Qo 14 13,Qm 15 4,Qx 16 8 14 15,Ql 17 8 16,Q1 18 34 17,Qv 19 .add 12 18,Qm 3 19] [1,3,4])) (qr [] [1,3,4])) (qr [Qm 10 4,Qu 11 .add 10 1,Qm 4 11] [1,3,4]))))) (qr [] [3]))) (qR [Qm 20 3,Qm 2 20] [2] .ret)))
theorem c34:FB 34 [2000001]=some (r34,s34):=by kernel_rfl
def r37:RL:=[(2,none)]
def s37:SCode:=qR [Qb 1 8 0,Qf 2] [1] (qs (qR [Qa 7 3 1,Qo 8 7,Qu 9 .eql 8 0] [1,9] (.cond (.t 9) (qR [Qa 10 4 1,Qo 11 10,qa 12 (.bin .neq (.t 11) (.c (.str []))),Qm 13 12,qc 14 13 (fa 5 1),qc 15 13 (lo 14),qc 16 13 (.len (.t 15)),qc 17 13 (fa 6 1),qc 18 13 (lo 17),qc 19 13 (.len (.t 18)),qc 20 13 (.bin .add (.t 16) (.t 19)),qc 21 13 (.bin .gtr (.t 20) (qi 0)),Qq 22 13 21] [1,22] (.cond (.t 22) Za5 .skip)) (qR [Qa 23 3 1,Qo 24 23,Q1 25 74 24,qa 26 (.bin .eql (.t 25) (.c (.str []))),Qm 27 26,qc 28 27 (fa 4 1),qc 29 27 (lo 28),qc 30 27 (.call (.f 75) [.t 29]),qc 31 27 (.not (.t 30)),Qq 32 27 31,Qm 33 32,qc 34 33 (fa 5 1),qc 35 33 (lo 34),qc 36 33 (.call (.f 76) [.t 35]),qc 37 33 (.not (.t 36)),Qq 38 33 37,Qm 39 38,qc 40 39 (fa 6 1),qc 41 39 (lo 40),qc 42 39 (.call (.f 76) [.t 41]),qc 43 39 (.not (.t 42)),Qq 44 39 43] [1,44] (.cond (.t 44) Za5 .skip)))) (qR [qa 45 (.raw (.makeMap 108 none)),Qm 3 45] [1,3] (qs (qR [Qa 46 7 1,Qo 47 46,Qn 48 47,Qi 49 0] [1,3,47,48,49] (qs (.block 0 (.loop (qR [Qv 50 .lss 49 48] [1,3,47,48,49,50] (qs (qX 50) (qs (qs (.block 1 (qR [Qx 51 8 47 49,Ql 52 8 51,QU 5 29,QS 8 5 52] [1,3,5,47,48,49] (qR [Qa 53 3 5,Qo 54 53,Qa 55 4 5,Qo 56 55,qa 57 (.build [.int .i64 0,.str []] [(0,(1,.t 54)),(1,(1,.t 56))]),qa 6 (.alloc 110 [.int .i64 0,.str []]),QS 2 6 57] [1,3,5,6,47,48,49] (qs (qR [Qa 58 3 1,Qo 59 58,Qa 60 3 5,Qo 61 60,Q2 62 77 59 61,Qr 63 62,Qm 64 63,Ym 65 64 3,qc 66 64 (lm 2 6),qc 67 64 (.raw (.lookup 108 (.tmp 65) (.tmp 66) false)),Qq 68 64 67] [1,3,6,47,48,49,68] (.cond (.t 68) Za5 .skip)) (qr [Qm 69 3,Ql 70 2 6,⟨none,none,.raw (.mapUpdate 108 (.tmp 69) (.tmp 70) (.const (.bool true)))⟩] [1,3,47,48,49]))))) (qr [] [1,3,47,48,49])) (qr [Qu 71 .add 49 1,Qm 49 71] [1,3,47,48,49])))))) (qr [] [1]))) (qR [Qa 72 7 1,Qo 73 72,Qn 74 73,Qu 75 .leq 74 64,Qm 2 75] [2] .ret))))
theorem c37:FB 37 [2000001]=some (r37,s37):=by kernel_rfl
def r40:RL:=[(2,none)]
def s40:SCode:=qR [Qb 1 8 0,Qf 2] [1] (qR [Ql 8 8 1,Q1 9 10 8,Qm 3 9] [1,3] (qR [qa 10 (.raw (.makeMap 111 none)),Qm 4 10] [1,3,4] (qs (qR [Qm 11 3,Qn 12 11,Qi 13 0] [1,3,4,11,12,13] (qs (.block 0 (.loop (qR [Qv 14 .lss 13 12] [1,3,4,11,12,13,14] (qs (qX 14) (qs (qs (.block 1 (qR [Qx 15 3 11 13,Ql 16 3 15,qa 6 (.alloc 25 Za2),QS 3 6 16] [1,3,4,6,11,12,13] (qr [Qm 17 4,Ql 18 3 6,⟨none,none,.raw (.mapUpdate 111 (.tmp 17) (.tmp 18) (.const (.bool true)))⟩] [1,3,4,11,12,13]))) (qr [] [1,3,4,11,12,13])) (qr [Qu 19 .add 13 1,Qm 13 19] [1,3,4,11,12,13])))))) (qr [] [1,3,4]))) (qR [Qm 20 4,qa 21 (.build Za2 []),qa 22 (.raw (.lookup 111 (.tmp 20) (.tmp 21) false)),Qm 7 22] [1,3,4,7] (qs (.drawL [Qm 23 7,Qm 24 23,Bm 25 24 4,qb 26 24 (.raw (.call (.mk (.builtin .len) #[.tmp 25] #[111]))),qb 27 24 (.bin .eql (.t 26) (qi 1)),Qp 28 24 27,Qm 29 28,Ym 30 29 4,Ym 32 29 3,qc 33 29 (.len (.t 32)),qc 31 29 (.raw (.call (.mk (.builtin .len) #[.tmp 30] #[111]))),qc 34 29 (.bin .eql (.t 31) (.t 33)),Ym 35 29 34,qb 36 35 (fa 3 1),qb 37 35 (.loadF false 1 (.t 36)),qb 38 35 (.bin .eql (.t 37) (qi 0)),qb 39 35 (fa 0 1),qb 40 35 (.loadF true 3 (.t 39)),qb 41 35 (.build Za2 []),qb 42 35 (.eqs false [1,1,1] (.t 40) (.t 41)),qb 43 35 (.eqb false (.t 38) (.t 42)),qc 44 29 (.pick (.t 35) (.t 43) qf),Qq 45 29 44,Qm 2 45] [2]) .ret)))))
theorem c40:FB 40 [2000001]=some (r40,s40):=by kernel_rfl
def r43:RL:=[(4,none)]
def s43:SCode:=qR [Qb 2 8 0,Qf 4] [1,2] (qR [Ql 5 8 2,Qm 6 1,qa 7 (.call (.f 79) [.t 5,qi 0,.t 6]),Qm 8 1,Qv 9 .leq 7 8,Qm 10 9,qb 11 10 (lm 8 2),qb 12 10 (.call (.f 80) [.t 11]),Qp 13 10 12,Qm 4 13] [4] .ret)
theorem c43:FB 43 [2000002]=some (r43,s43):=by kernel_rfl
def r52:RL:=[(2,none)]
def s52:SCode:=qR [Qb 1 8 0,Qz 2] [1] (qR [Qa 5 0 1,Ql 6 3 5,qa 7 (.buildS 25 3 1 Za2 [(0,.t 6)]),Qm 3 7] [1,3] (qs (qR [Qi 4 0] [1,3,4] (qs (.block 0 (.loop (qs (qR [Qm 8 4,Qa 9 7 1,Qo 10 9,Qn 11 10,Qv 12 .lss 8 11] [1,3,4,12] (qX 12)) (qs (qs (.block 1 (qr [Qm 15 3,Qa 16 7 1,Qo 17 16,Qm 18 4,Qx 19 8 17 18,Ql 20 8 19,Q1 21 52 20,Qw 22 25 3 24 15 21,Qm 3 22] [1,3,4])) (qr [] [1,3,4])) (qr [Qm 13 4,Qu 14 .add 13 1,Qm 4 14] [1,3,4]))))) (qr [] [3]))) (qR [Qm 23 3,Qm 2 23] [2] .ret)))
theorem c52:FB 52 [2000001]=some (r52,s52):=by kernel_rfl
def r67:RL:=[(2,none)]
def s67:SCode:=qR Za7 [1] (qs (.drawT (.step (Qa 8 0 1) (.step (qa 9 (.loadF false 1 (.t 8))) (.both (.step (Q0 7 115) (.both (.step Za10 (.step (Qm 6 10) (.step (Qe 11 0 6) (.step (Qe 12 1 6) (.step Za14 Za12))))) (.step Za14 Za3))) (.step Za14 (.step (Q0 7 115) Za3))))) [1,3,4]) (qs (qR [Qm 13 4,Qr 14 13] [1,3,14] (.cond (.t 14) Za5 .skip)) (qR [Qa 15 0 3,Qo 16 15,Ql 17 25 1,qa 18 (.call (.t 16) [.t 17]),qa 5 (.alloc 61 zItm),QS 25 5 18] [1,3,5] (qR [Qa 19 0 1,Qo 20 19,Qa 21 0 5,QS 1 21 20] [1,3,5] (qs (qR [Qa 22 0 1,Qo 23 22,Q1 24 116 23] [1,3,5,24] (.cond (.t 24) (qs (.drawL [Qa 25 1 1,qa 26 (.loadF false 1 (.t 25)),Qa 27 16 1,qa 28 (.loadF false 1 (.t 27)),Qa 29 17 1,Qs 30 3 29,Qa 31 1 5,QS 1 31 26,Qa 32 16 5,QS 1 32 28,Qa 33 17 5,QS 3 33 30] [1,3,5]) (qR [Qa 34 1 1,Qo 35 34,Q1 36 117 35,Qr 37 36,Qm 38 37,qc 39 38 (fa 16 1),qc 40 38 (lo 39),qc 41 38 (.bin .neq (.t 40) (.c (.str []))),Ym 42 38 41,qb 43 42 (fa 16 1),qb 44 42 (lo 43),qb 45 42 (.call (.f 118) [.t 44]),qb 46 42 (.not (.t 45)),qc 47 38 (.pick (.t 42) (.t 46) qf),Qq 48 38 47,Qm 49 48,qc 50 49 (fa 17 1),qc 51 49 (lm 3 50),qc 52 49 (.call (.f 119) [.t 51]),qc 53 49 (.not (.t 52)),Qq 54 49 53] [1,3,5,54] (.cond (.t 54) Za5 .skip))) .skip)) (qR [Ql 55 25 1,Ql 56 25 5,Q2 57 120 55 56,Qm 58 57,qb 59 58 (fa 1 3),qb 60 58 (lo 59),qb 61 58 (lm 25 1),qb 62 58 (.call (.t 60) [.t 61]),Qp 63 58 62,Qm 2 63] [2] .ret))))))
theorem c67:FB 67 [2000001]=some (r67,s67):=by kernel_rfl
def r73:RL:=[(4,none)]
def s73:SCode:=qR [Qf 4] [0,1] (qs (qR [Qm 5 0] [1,5] (qs (.block 0 (qR [Qu 7 .eql 5 0,Qm 6 7] [1,5,6] (.cond (.t 6) (qR [Qm 8 1,Qu 9 .eql 8 1,Qm 10 9,Ym 11 10 1,qc 12 10 (.bin .eql (.t 11) (qi 2)),Qq 13 10 12,Qm 4 13] [4] .ret) (qR [Qu 15 .eql 5 1,Qm 14 15] [1,5,14] (.cond (.t 14) (qR [Qm 16 1,Qu 17 .eql 16 2,Qm 4 17] [4] .ret) (qs (qR [Qu 19 .eql 5 2,Qm 18 19] [1,5,18] (.cond (.t 18) .skip (qr [Qu 20 .eql 5 3,Qm 18 20] [1,5,18]))) (.cond (.t 18) (qR [Qm 21 1,Qu 22 .eql 21 3,Qm 23 22,Ym 24 23 1,qc 25 23 (.bin .eql (.t 24) (qi 4)),Qq 26 23 25,Qm 27 26,Ym 28 27 1,qc 29 27 (.bin .eql (.t 28) (qi 7)),Qq 30 27 29,Qm 4 30] [4] .ret) (qR [Qu 32 .eql 5 4,Qm 31 32] [1,5,31] (.cond (.t 31) (qR [Qm 33 1,Qu 34 .eql 33 5,Qm 4 34] [4] .ret) (qR [Qu 36 .eql 5 5,Qm 35 36] [1,35] (.cond (.t 35) (qR [Qm 37 1,Qu 38 .eql 37 6,Qm 4 38] [4] .ret) .skip))))))))))) (qr [] []))) (qR [Qf 4] [4] .ret))
theorem c73:FB 73 []=some (r73,s73):=by kernel_rfl
def r76:RL:=[(2,none)]
def s76:SCode:=qR [Qf 2] [0] (qR [Qz 3] [0,3] (qs (qR [Qm 6 0,Qn 7 6,Qi 8 0] [0,3,6,7,8] (qs (.block 0 (.loop (qR [Qv 9 .lss 8 7] [0,3,6,7,8,9] (qs (qX 9) (qs (qs (.block 1 (qR [Qx 10 4 6 8,Ql 11 4 10,qa 5 (.alloc 88 [.str [],.int .i64 0,.int .i64 0,.int .i64 0]),QS 4 5 11] [0,3,5,6,7,8] (qr [Qm 12 3,Qa 13 0 5,Qo 14 13,qa 15 (.buildS 9 1 1 [.str []] [(0,.t 14)]),Qw 16 9 1 16 12 15,Qm 3 16] [0,3,6,7,8]))) (qr [] [0,3,6,7,8])) (qr [Qu 17 .add 8 1,Qm 8 17] [0,3,6,7,8])))))) (qr [] [0,3]))) (qR [Qm 18 0,Qn 19 18,Qu 20 .leq 19 256,Qm 21 20,Bm 22 21 3,qb 23 21 (.call (.f 130) [.t 22]),Qp 24 21 23,Qm 2 24] [2] .ret)))
theorem c76:FB 76 []=some (r76,s76):=by kernel_rfl
def r79:RL:=[(6,none)]
def s79:SCode:=qR [Qb 3 8 0,Qi 6 0] [1,2,3] (qs (qR [Qm 9 1,Qu 10 .gtr 9 20] [1,2,3,10] (.cond (.t 10) (qR [Qm 11 2,Qu 12 .add 11 1,Qm 6 12] [6] .ret) .skip)) (qR [Qi 7 1] [1,2,3,7] (qs (qR [Qi 8 0] [1,2,3,7,8] (qs (.block 0 (.loop (qs (qR [Qm 13 8,Qa 14 7 3,Qo 15 14,Qn 16 15,Qv 17 .lss 13 16,Qm 18 17,Bm 19 18 7,Bm 20 18 2,qb 21 18 (.bin .leq (.t 19) (.t 20)),Qp 22 18 21] [1,2,3,7,8,22] (qX 22)) (qs (qs (.block 1 (qr [Qm 25 7,Qa 26 7 3,Qo 27 26,Qm 28 8,Qx 29 8 27 28,Ql 30 8 29,Qm 31 1,Qu 32 .add 31 1,Qm 33 2,Qm 34 7,Qv 35 .sub 33 34,Q3 36 79 30 32 35,Qv 37 .add 25 36,Qm 7 37] [1,2,3,7,8])) (qr [] [1,2,3,7,8])) (qr [Qm 23 8,Qu 24 .add 23 1,Qm 8 24] [1,2,3,7,8]))))) (qr [] [7]))) (qR [Qm 38 7,Qm 6 38] [6] .ret))))
theorem c79:FB 79 [2000003]=some (r79,s79):=by kernel_rfl
def r88:RL:=[(4,none)]
def s88:SCode:=qR [Qf 4] [0,1] (qs (qR [Qm 6 0,Qn 7 6,Qm 8 1,Qn 9 8,Qv 10 .neq 7 9] [0,1,10] (.cond (.t 10) (qR [Qf 4] [4] .ret) .skip)) (qs (qR [Qm 11 0,Qn 12 11,Qi 13 0] [0,1,12,13] (qs (.block 0 (.loop (qR [Qv 14 .lss 13 12] [0,1,12,13,14] (qs (qX 14) (qs (qs (.block 1 (qR [Qm 15 13,Qm 5 15] [0,1,5,12,13] (qs (.draw [Qm 16 0,Qm 17 5,Qx 18 1 16 17,Qo 19 18,Qm 20 1,Qm 21 5,Qx 22 1 20 21,Qo 23 22,Qv 24 .neq 19 23] [0,1,12,13,24]) (.cond (.t 24) (qR [Qf 4] [4] .ret) .skip)))) (qr [] [0,1,12,13])) (qr [Qu 25 .add 13 1,Qm 13 25] [0,1,12,13])))))) (qr [] []))) (qR [Qt 4] [4] .ret)))
theorem c88:FB 88 []=some (r88,s88):=by kernel_rfl
def r115:RL:=[(0,none)]
def s115:SCode:=qR [qa 0 (.mov (.c (.sc (.map none))))] [] (qR [qa 1 (.raw (.makeMap 151 none)),qa 2 (.build Za0 [(0,(1,.f 150)),(1,(1,.f 151))]),⟨none,none,.raw (.insert 151 (.tmp 1) (.const (.int .i64 0)) (.tmp 2))⟩,qa 3 (.build Za0 [(0,(1,.f 154)),(1,(1,.f 155))]),⟨none,none,.raw (.insert 151 (.tmp 1) (.const (.int .i64 1)) (.tmp 3))⟩,qa 4 (.build Za0 [(0,(1,.f 156)),(1,(1,.f 157))]),⟨none,none,.raw (.insert 151 (.tmp 1) (.const (.int .i64 2)) (.tmp 4))⟩,qa 5 (.build Za0 [(0,(1,.f 160)),(1,(1,.f 161))]),⟨none,none,.raw (.insert 151 (.tmp 1) (.const (.int .i64 3)) (.tmp 5))⟩,qa 6 (.build Za0 [(0,(1,.f 162)),(1,(1,.f 163))]),⟨none,none,.raw (.insert 151 (.tmp 1) (.const (.int .i64 4)) (.tmp 6))⟩,qa 7 (.build Za0 [(0,(1,.f 164)),(1,(1,.f 165))]),⟨none,none,.raw (.insert 151 (.tmp 1) (.const (.int .i64 5)) (.tmp 7))⟩,qa 8 (.build Za0 [(0,(1,.f 166)),(1,(1,.f 167))]),⟨none,none,.raw (.insert 151 (.tmp 1) (.const (.int .i64 6)) (.tmp 8))⟩,qa 9 (.load true 2 (.g 2)),⟨none,none,.raw (.insert 151 (.tmp 1) (.const (.int .i64 7)) (.tmp 9))⟩,qa 10 (.load true 2 (.g 2)),⟨none,none,.raw (.insert 151 (.tmp 1) (.const (.int .i64 8)) (.tmp 10))⟩,qa 11 (.load true 2 (.g 2)),⟨none,none,.raw (.insert 151 (.tmp 1) (.const (.int .i64 9)) (.tmp 11))⟩,qa 12 (.build Za0 [(0,(1,.f 168)),(1,(1,.f 169))]),⟨none,none,.raw (.insert 151 (.tmp 1) (.const (.int .i64 10)) (.tmp 12))⟩,qa 13 (.build Za0 [(0,(1,.f 171)),(1,(1,.f 172))]),⟨none,none,.raw (.insert 151 (.tmp 1) (.const (.int .i64 11)) (.tmp 13))⟩,Qm 14 1,Qm 0 14] [0] .ret)
theorem c115:FB 115 []=some (r115,s115):=by kernel_rfl
def r118:RL:=[(2,none)]
def s118:SCode:=qR [Qf 2] [0] (qs (qR [Qm 3 0,QN 4 3,Qu 5 .lss 4 1,Qm 6 5,Ym 7 6 0,qc 8 6 (.lenS (.t 7)),qc 9 6 (.bin .gtr (.t 8) (qi 16)),Qq 10 6 9,Qm 11 10,Ym 12 11 0,qc 13 11 (.index (.t 12) (qi 0)),qc 14 11 (.bin .lss (.t 13) (.c (.int .u8 97))),Qq 15 11 14,Qm 16 15,Ym 17 16 0,qc 18 16 (.index (.t 17) (qi 0)),qc 19 16 (.bin .gtr (.t 18) (.c (.int .u8 122))),Qq 20 16 19] [0,20] (.cond (.t 20) Za5 .skip)) (qR [Qm 21 0,qa 22 (.call (.f 175) [.t 21,.c (.str [97,98,99,100,101,102,103,104,105,106,107,108,109,110,111,112,113,114,115,116,117,118,119,120,121,122,48,49,50,51,52,53,54,55,56,57,45])]),qa 23 (.bin .eql (.t 22) (.c (.str []))),Qm 2 23] [2] .ret))
theorem c118:FB 118 []=some (r118,s118):=by kernel_rfl
def r127:RL:=[(2,none),(3,none)]
def s127:SCode:=qR [qa 2 (.mov (.c (.str []))),qa 3 (.mov (.c (.str [])))] [0] (qR [Qm 5 0,qa 6 (.call (.f 188) [.t 5,.f 189]),Qm 4 6] [0,4] (qs (qR [Qm 7 4,Qu 8 .lss 7 0] [0,4,8] (.cond (.t 8) (qR [Qm 9 0,Qm 2 9,qa 3 (.mov (.c (.str [])))] [2,3] .ret) .skip)) (qs (.drawL [Qm 10 0,Qm 11 4,qa 12 (.sliceS (.t 10) none (some (.t 11))),Qm 13 0,Qm 14 4,qa 15 (.sliceS (.t 13) (some (.t 14)) none),Qm 2 12,Qm 3 15] [2,3]) .ret)))
theorem c127:FB 127 []=some (r127,s127):=by kernel_rfl
def r130:RL:=[(2,none)]
def s130:SCode:=qR [Qf 2] [0] (qR [Qm 3 0,Qn 4 3,Qu 5 .leq 4 256,Qm 6 5,Bm 7 6 0,qb 8 6 (.call (.f 190) [.t 7,.f 191]),qb 9 6 (.not (.t 8)),Qp 10 6 9,Qm 2 10] [2] .ret)
theorem c130:FB 130 []=some (r130,s130):=by kernel_rfl
def r142:RL:=[(2,some (true,8))]
def s142:SCode:=qR [QB 1 29 8 0,QU 2 29] [1,2] (qR [Ql 7 8 1,Q1 8 145 7,QS 8 1 8] [1,2] (qR [qa 9 (.build Za2 []),Qa 10 0 1,QS 3 10 9] [1,2] (qs (qR [Qa 11 5 1,Qo 12 11,Qa 13 6 1,Qo 14 13,qa 15 (.buildS 26 1 2 [.nil,.nil] [(0,.t 12),(1,.t 14)]),Qn 16 15,Qi 17 0] [1,2,15,16,17] (qs (.block 0 (.loop (qR Za16 [1,2,15,16,17,18] (qs (qX 18) (qs (qs (.block 1 (qR [Qx 19 1 15 17,Qo 20 19,Qm 4 20] [1,2,4,15,16,17] (qR [Qm 21 4,Qn 22 21,Qi 23 0] [1,2,4,15,16,17,22,23] (qs (.block 2 (.loop (qR [Qv 24 .lss 23 22] [1,2,4,15,16,17,22,23,24] (qs (.cond (.t 24) .skip (.exit 2)) (qs (qs (.block 3 (qR [Qm 25 23,Qm 5 25] [1,2,4,5,15,16,17,22,23] (qr [Qm 26 4,Qm 27 5,qa 28 (.build Za2 []),Qx 29 4 26 27,Qa 30 1 29,QS 3 30 28] [1,2,4,15,16,17,22,23]))) (qr [] [1,2,4,15,16,17,22,23])) (qr [Qu 31 .add 23 1,Qm 23 31] [1,2,4,15,16,17,22,23])))))) Za15)))) Za15) (qr [Qu 32 .add 17 1,Qm 17 32] [1,2,15,16,17])))))) (qr [] [1,2]))) (qs (qR [Qa 33 7 1,Qo 34 33,Qn 35 34,Qi 36 0] [1,2,35,36] (qs (.block 4 (.loop (qR [Qv 37 .lss 36 35] [1,2,35,36,37] (qs (.cond (.t 37) .skip (.exit 4)) (qs (qs (.block 5 (qR [Qm 38 36,Qm 6 38] [1,2,6,35,36] (.drawT (.step (Qa 39 7 1) (.step (Qm 41 6) (.step (Qa 42 7 1) (.step (Qm 44 6) (.both (.step (Qo 40 39) (.step (Qo 43 42) (.step (Qx 45 8 43 44) (.step (Ql 46 8 45) Za11)))) (.step (Qo 43 42) (.step (Qx 45 8 43 44) (.both (.step (Qo 40 39) (.step (Ql 46 8 45) Za11)) (.step (Ql 46 8 45) (.both (.step (Qo 40 39) Za11) (.step (Q1 47 142 46) (.step (Qo 40 39) Za4)))))))))))) [1,2,35,36]))) (qr [] [1,2,35,36])) (qr [Qu 49 .add 36 1,Qm 36 49] [1,2,35,36])))))) (qr [] [1,2]))) (qR [Ql 50 8 1,QS 8 2 50] [2] .ret)))))
theorem c142:FB 142 []=some (r142,s142):=by kernel_rfl
def r145:RL:=[(2,some (true,8))]
def s145:SCode:=qR [QB 1 29 8 0,QU 2 29] [1,2] (qs (.drawT (.step (Qa 6 5 1) (.step (Qa 9 6 1) (.both (.step (Qo 7 6) (.both (.step (Q1 8 202 7) (.step (Qo 10 9) Za1)) (.step (Qo 10 9) (.step (Q1 8 202 7) Za1)))) (.step (Qo 10 9) (.step (Qo 7 6) (.step (Q1 8 202 7) Za1)))))) [1,2]) (qR [Qz 3] [1,2,3] (qs (qR [Qa 14 7 1,Qo 15 14,Qn 16 15,Qi 17 0] [1,2,3,15,16,17] (qs (.block 0 (.loop (qR Za16 [1,2,3,15,16,17,18] (qs (qX 18) (qs (qs (.block 1 (qR [Qx 19 8 15 17,Ql 20 8 19,QU 5 29,QS 8 5 20] [1,2,3,5,15,16,17] (qr [Qm 21 3,Ql 22 8 5,Q1 23 145 22,qa 24 (.buildS 29 8 1 zU [(0,.t 23)]),qa 25 (.raw (.call (.mk (.builtin .append) #[.tmp 21,.tmp 24] #[27,27]))),Qm 3 25] [1,2,3,15,16,17]))) (qr [] [1,2,3,15,16,17])) (qr [Qu 26 .add 17 1,Qm 17 26] [1,2,3,15,16,17])))))) (qr [] [1,2,3]))) (qR [Qm 27 3,Qa 28 7 1,QS 1 28 27] [1,2] (qR [Ql 29 8 1,QS 8 2 29] [2] .ret)))))
theorem c145:FB 145 [3000025]=some (r145,s145):=by kernel_rfl
def r151:RL:=[(2,none)]
def s151:SCode:=qR Za7 [1] (qR [Qa 3 3 1,Qo 4 3,Q1 5 152 4,Qm 6 5,qb 7 6 (fa 5 1),qb 8 6 (lm 8 7),qb 9 6 (.call (.f 153) [.t 8]),Qp 10 6 9,Qm 2 10] [2] .ret)
theorem c151:FB 151 [2000001]=some (r151,s151):=by kernel_rfl
def r154:RL:=[(2,some (true,25))]
def s154:SCode:=qR Za9 [2] (qR [qa 3 (.build zItm []),QS 25 2 3] [2] .ret)
theorem c154:FB 154 [2000001]=some (r154,s154):=by kernel_rfl
def r157:RL:=[(2,none)]
def s157:SCode:=qR Za7 [1] (qR [Qa 3 13 1,Qo 4 3,qa 5 (.call (.f 158) [.t 4,qi 1]),Qm 6 5,qb 7 6 (fa 14 1),qb 8 6 (lo 7),qb 9 6 (.call (.f 158) [.t 8,qi 0]),Qp 10 6 9,Qm 11 10,qb 12 11 (lm 25 1),qb 13 11 (.call (.f 159) [.t 12]),Qp 14 11 13,Qm 2 14] [2] .ret)
theorem c157:FB 157 [2000001]=some (r157,s157):=by kernel_rfl
def r160:RL:=[(2,some (true,25))]
def s160:SCode:=qR Za9 [1,2] (qR [Qa 3 13 1,Qo 4 3,Qa 5 14 1,Qo 6 5,Qa 7 4 1,Qo 8 7,qa 9 (.build zItm [(13,(1,.t 4)),(14,(1,.t 6)),(4,(1,.t 8))]),QS 25 2 9] [2] .ret)
theorem c160:FB 160 [2000001]=some (r160,s160):=by kernel_rfl
def r163:RL:=[(2,none)]
def s163:SCode:=qR Za7 [1] (qR [Qa 3 14 1,Qo 4 3,qa 5 (.call (.f 158) [.t 4,qi 0]),Qm 2 5] [2] .ret)
theorem c163:FB 163 [2000001]=some (r163,s163):=by kernel_rfl
def r166:RL:=[(2,some (true,25))]
def s166:SCode:=qR Za9 [1,2] (qR [Qa 3 2 1,Qo 4 3,Qa 5 3 1,Qo 6 5,qa 7 (.build zItm [(2,(1,.t 4)),(3,(1,.t 6))]),QS 25 2 7] [2] .ret)
theorem c166:FB 166 [2000001]=some (r166,s166):=by kernel_rfl
def r169:RL:=[(2,none)]
def s169:SCode:=qR Za7 [1] (qR [Qa 3 23 1,Qo 4 3,Q1 5 118 4,Qm 6 5,qb 7 6 (fa 22 1),qb 8 6 (lo 7),qb 9 6 (.call (.f 170) [.t 8,qi 0,qi 1048576]),Qp 10 6 9,Qm 2 10] [2] .ret)
theorem c169:FB 169 [2000001]=some (r169,s169):=by kernel_rfl
def r172:RL:=[(2,none)]
def s172:SCode:=qR Za7 [1] (qR [Ql 3 25 1,qa 4 (.call (.f 173) [.t 3,qi 0]),Qm 5 4,qb 6 5 (fa 24 1),qb 7 5 (lo 6),qb 8 5 (.len (.t 7)),qb 9 5 (.bin .eql (.t 8) (qi 1)),Qp 10 5 9,Qm 11 10,qb 12 11 (fa 24 1),qb 13 11 (lo 12),qb 14 11 (.indexA 25 (.t 13) (qi 0)),qb 15 11 (fa 0 14),qb 16 11 (lo 15),qb 17 11 (.call (.f 116) [.t 16]),Qp 18 11 17,Qm 19 18,qb 20 19 (fa 24 1),qb 21 19 (lo 20),qb 22 19 (.indexA 25 (.t 21) (qi 0)),qb 23 19 (lm 25 22),qb 24 19 (.call (.f 67) [.t 23]),Qp 25 19 24,Qm 2 25] [2] .ret)
theorem c172:FB 172 [2000001]=some (r172,s172):=by kernel_rfl
def r178:RL:=[(6,none)]
def s178:SCode:=qR [Qf 6] [0,1,2] (qs (qR [Qm 10 0,Qn 11 10,Qm 12 1,Qn 13 12,Qv 14 .neq 11 13] [0,1,2,14] (.cond (.t 14) (qR [Qf 6] [6] .ret) .skip)) (qs (qR [Qm 15 0,Qn 16 15,Qi 17 0] [1,2,15,16,17] (qs (.block 0 (.loop (qR Za16 [1,2,15,16,17,18] (qs (qX 18) (qs (qs (.block 1 (qR [Qm 19 17,Qx 20 25 15 17,Ql 21 25 20,qa 8 (.alloc 61 zItm),Qm 7 19,QS 25 8 21] [1,2,7,8,15,16,17] (qR [Qm 22 1,Qm 23 7,Qx 24 25 22 23,Ql 25 25 24,qa 9 (.alloc 61 zItm),QS 25 9 25] [1,2,8,9,15,16,17] (qR [Qm 26 2,Ql 27 25 8,Ql 28 25 9,qa 29 (.call (.t 26) [.t 27,.t 28]),Qr 30 29] [1,2,15,16,17,30] (.cond (.t 30) (qR [Qf 6] [6] .ret) .skip))))) Za15) (qr [Qu 31 .add 17 1,Qm 17 31] [1,2,15,16,17])))))) (qr [] []))) (qR [Qt 6] [6] .ret)))
theorem c178:FB 178 []=some (r178,s178):=by kernel_rfl
def r187:RL:=[(2,none)]
def s187:SCode:=qR [Qi 2 0] [0] (qR [Qi 3 0] [0,3] (qs (qs (.block 0 (.loop (qs (qR [Qm 4 3,Qm 5 0,QN 6 5,Qv 7 .lss 4 6,Qm 8 7,Bm 9 8 0,Bm 10 8 3,qb 11 8 (.index (.t 9) (.t 10)),qb 12 8 (.bin .geq (.t 11) (.c (.int .u8 48))),Qp 13 8 12,Qm 14 13,Bm 15 14 0,Bm 16 14 3,qb 17 14 (.index (.t 15) (.t 16)),qb 18 14 (.bin .leq (.t 17) (.c (.int .u8 57))),Qp 19 14 18] [0,3,19] (qX 19)) (qs (.block 1 (qr [Qm 20 3,Qu 21 .add 20 1,Qm 3 21] [0,3])) (qr [] [0,3]))))) (qr [] [3])) (qR [Qm 22 3,Qm 2 22] [2] .ret)))
theorem c187:FB 187 []=some (r187,s187):=by kernel_rfl
def r190:RL:=[(4,none)]
def s190:SCode:=qR [Qf 4] [0,1] (qR [Qm 5 0,Qm 6 1,Q2 7 240 5 6,Qu 8 .geq 7 0,Qm 4 8] [4] .ret)
theorem c190:FB 190 []=some (r190,s190):=by kernel_rfl
def r202:RL:=[(2,none)]
def s202:SCode:=qR [Qz 2] [0] (qs (qR [Qm 3 0,qa 4 (.eqnil 0 false (.t 3))] [0,4] (.cond (.t 4) (qR [Qz 2] [2] .ret) .skip)) (qR [qa 5 (.raw (.buildSlice 26 0 #[])),Qm 6 0,qa 7 (.raw (.call (.mk (.builtin .append) #[.tmp 5,.tmp 6] #[26,26]))),Qm 2 7] [2] .ret))
theorem c202:FB 202 [3000005,3000007]=some (r202,s202):=by kernel_rfl
def r238:RL:=[(2,none)]
def s238:SCode:=qR [Qf 2] [0] (qs (qR [Qm 4 0,QN 5 4,Qu 6 .lss 5 1,Qm 7 6,Ym 8 7 0,qc 9 7 (.lenS (.t 8)),qc 10 7 (.bin .gtr (.t 9) (qi 24)),Qq 11 7 10] [0,11] (.cond (.t 11) Za5 .skip)) (qs (qR [Qi 3 0] [0,3] (qs (.block 0 (.loop (qs (qR [Qm 12 3,Qm 13 0,QN 14 13,Qv 15 .lss 12 14] [0,3,15] (qX 15)) (qs (qs (.block 1 (qR [Qm 18 0,Qm 19 3,QI 20 18 19,qa 21 (.bin .lss (.t 20) (.c (.int .u8 33))),Qm 22 21,Ym 23 22 0,Ym 24 22 3,qc 25 22 (.index (.t 23) (.t 24)),qc 26 22 (.bin .gtr (.t 25) (.c (.int .u8 126))),Qq 27 22 26] [0,3,27] (.cond (.t 27) Za5 .skip))) (qr [] [0,3])) (qr [Qm 16 3,Qu 17 .add 16 1,Qm 3 17] [0,3]))))) (qr [] []))) (qR [Qt 2] [2] .ret)))
theorem c238:FB 238 []=some (r238,s238):=by kernel_rfl
def r241:RL:=[(2,none)]
def s241:SCode:=qR [Qf 2] [0] (qR [Qm 3 0,qa 4 (.bin .lss (.t 3) (.c (.int .u8 33))),Qm 5 4,Ym 6 5 0,qc 7 5 (.bin .gtr (.t 6) (.c (.int .u8 126))),Qq 8 5 7,Qm 2 8] [2] .ret)
theorem c241:FB 241 []=some (r241,s241):=by kernel_rfl
def r256:RL:=[(2,none)]
def s256:SCode:=qR [Qb 1 8 0,Qf 2] [1] (qR [qa 3 (.mov (.f 257))] [1,3] (qR [Qa 4 0 1,Ql 5 3 4,qa 6 (.build Za2 []),qa 7 (.eqs false [1,1,1] (.t 5) (.t 6)),Qm 8 7,qb 9 8 (fa 5 1),qb 10 8 (lo 9),Bm 11 8 3,qb 12 8 (.call (.f 258) [.t 10,.t 11]),qb 13 8 (.not (.t 12)),Qp 14 8 13,Qm 15 14,qb 16 15 (fa 6 1),qb 17 15 (lo 16),Bm 18 15 3,qb 19 15 (.call (.f 258) [.t 17,.t 18]),qb 20 15 (.not (.t 19)),Qp 21 15 20,Qm 2 21] [2] .ret))
theorem c256:FB 256 [2000001]=some (r256,s256):=by kernel_rfl
def r298:RL:=[]
def s298:SCode:=qR [Qb 4 8 0] [1,2,3,4] (qs (.drawT (.step (Qs 9 8 4) (.step (Qm 10 1) (.both (.step (Qo 8 2) (.step (Q2 11 299 9 10) Za6)) (.step (Q2 11 299 9 10) (.both (.step (Qo 8 2) Za6) (.step Za13 (.step (Qo 8 2) Za8))))))) [1,3,4]) (qR [Qa 14 7 4,Qo 15 14,Qn 16 15,Qi 17 0] [1,3,15,16,17] (qs (.block 0 (.loop (qR Za16 [1,3,15,16,17,18] (qs (qX 18) (qs (qs (.block 1 (qR [Qx 19 8 15 17,Ql 20 8 19,QU 7 29,QS 8 7 20] [1,3,7,15,16,17] (qr [Qo 21 3,Ql 22 8 7,Qm 23 1,Qu 24 .add 23 1,qa 25 (.call (.t 21) [.t 22,.t 24])] [1,3,15,16,17]))) (qr [] [1,3,15,16,17])) (qr [Qu 26 .add 17 1,Qm 17 26] [1,3,15,16,17])))))) (qr [] []))))
theorem c298:FB 298 [2000004]=some (r298,s298):=by kernel_rfl
end Go.Av
