/-
  THE TRANSLATED CODE. Printed by mkcode2.py.
-/
import Derived.Test.YtnoakpkjccigoaaGreatDoorVXOpenGtoXCS
import Derived.Test.YtnoakpkjccigoaaGreatDoorVXAv24toXAv26
import Derived.Test.YtnoakpkjccigoaaGreatDoorProg
namespace Go.Av
open Go List
set_option linter.unusedSimpArgs false
set_option linter.unusedVariables false
abbrev Za16:SCode:=qr [] [1,2,15,16,17]
abbrev Za6:DT:=.step (Qx 48 8 40 41) (.step (QS 8 48 47) .done)
abbrev Za15:DT:=.step (Q1 47 307 46) Za6
abbrev Za14:SCode:=qR [Qt 4] [4] .ret
abbrev Za13:DT:=.step (Q2 67 16 61 66) (.step (Qr 68 67) .done)
abbrev Za9:SCode:=qR [Qf 4] [4] .ret
abbrev Za12:SCode:=qR [Qm 6 0,Qn 7 6,Qm 8 1,Qn 9 8,Qv 10 .neq 7 9] [0,1,10] (.cond (.t 10) Za9 .skip)
abbrev Za11:List SOper:=[Qb 1 8 0,Qf 2]
abbrev Za10:List SOper:=[Qb 1 25 0,Qf 2]
abbrev Za8:SCode:=qR [Qt 2] [2] .ret
abbrev Za7:SCode:=qR [Qa 3 13 1,Qo 4 3,Qa 5 14 1,Qo 6 5,Qa 7 4 1,Qo 8 7,qa 9 (.build zItm [(13,(1,.t 4)),(14,(1,.t 6)),(4,(1,.t 8))]),QS 25 2 9] [2] .ret
abbrev Za5:List AV:=[.sc .nilFunc,.sc .nilFunc]
abbrev Za4:List SOper:=[Qb 1 25 0,qa 2 (.alloc 52 zItm)]
abbrev Za3:DT:=.step (Qa 12 5 1) (.step (Q1 11 86 10) (.step (QS 1 12 8) (.step (Qa 13 6 1) (.step (QS 1 13 11) .done))))
abbrev Za2:List AV:=[.int .i64 0,.int .i64 0,.int .i64 0]
abbrev Za1:SCode:=qR [Qf 2] [2] .ret
abbrev Za0:SCode:=qs (qR [Qm 6 0,Qn 7 6,Qi 8 0] [0,1,7,8] (qs (.block 0 (.loop (qR [Qv 9 .lss 8 7] [0,1,7,8,9] (qs (qX 9) (qs (qs (.block 1 (qR [Qm 10 8,Qm 5 10] [0,1,5,7,8] (qR [Qm 11 1,Qm 12 0,Qm 13 5,Qx 14 1 12 13,Qo 15 14,qa 16 (.call (.t 11) [.t 15])] [0,1,5,7,8,16] (.cond (.t 16) (qR [Qm 17 5,Qm 4 17] [4] .ret) .skip)))) (qr [] [0,1,7,8])) (qr [Qu 18 .add 8 1,Qm 8 18] [0,1,7,8])))))) (qr [] []))) (qR [Qi 4 (-1)] [4] .ret)
def r9:RL:=[(4,none)]
def s9:SCode:=qR [Qb 2 8 0,Qf 4] [1,2] (qR [Ql 5 8 2,Qm 6 1,qa 7 (.call (.f 24) [.t 5,qi 0,.t 6]),Qm 8 1,Qv 9 .leq 7 8,Qm 10 9,qb 11 10 (lm 8 2),qb 12 10 (.call (.f 25) [.t 11]),Qp 13 10 12,Qm 4 13] [4] .ret)
theorem c9:FB 9 [2000002]=some (r9,s9):=by kernel_rfl
def r24:RL:=[(6,none)]
def s24:SCode:=qR [Qb 3 8 0,Qi 6 0] [1,2,3] (qs (qR [Qm 9 1,Qu 10 .gtr 9 20] [1,2,3,10] (.cond (.t 10) (qR [Qm 11 2,Qu 12 .add 11 1,Qm 6 12] [6] .ret) .skip)) (qR [Qi 7 1] [1,2,3,7] (qs (qR [Qi 8 0] [1,2,3,7,8] (qs (.block 0 (.loop (qs (qR [Qm 13 8,Qa 14 7 3,Qo 15 14,Qn 16 15,Qv 17 .lss 13 16,Qm 18 17,Bm 19 18 7,Bm 20 18 2,qb 21 18 (.bin .leq (.t 19) (.t 20)),Qp 22 18 21] [1,2,3,7,8,22] (qX 22)) (qs (qs (.block 1 (qr [Qm 25 7,Qa 26 7 3,Qo 27 26,Qm 28 8,Qx 29 8 27 28,Ql 30 8 29,Qm 31 1,Qu 32 .add 31 1,Qm 33 2,Qm 34 7,Qv 35 .sub 33 34,Q3 36 24 30 32 35,Qv 37 .add 25 36,Qm 7 37] [1,2,3,7,8])) (qr [] [1,2,3,7,8])) (qr [Qm 23 8,Qu 24 .add 23 1,Qm 8 24] [1,2,3,7,8]))))) (qr [] [7]))) (qR [Qm 38 7,Qm 6 38] [6] .ret))))
theorem c24:FB 24 [2000003]=some (r24,s24):=by kernel_rfl
def r42:RL:=[(4,none)]
def s42:SCode:=qR [Qf 4] [0,1] (qs Za12 (qs (qR [Qi 5 0] [0,1,5] (qs (.block 0 (.loop (qs (qR [Qm 11 5,Qm 12 0,Qn 13 12,Qv 14 .lss 11 13] [0,1,5,14] (qX 14)) (qs (qs (.block 1 (qs (.draw [Qm 17 0,Qm 18 5,Qx 19 4 17 18,Ql 20 4 19,Qm 21 1,Qm 22 5,Qx 23 4 21 22,Ql 24 4 23,qa 25 (.eqs true [2,1,1,1] (.t 20) (.t 24))] [0,1,5,25]) (.cond (.t 25) Za9 .skip))) (qr [] [0,1,5])) (qr [Qm 15 5,Qu 16 .add 15 1,Qm 5 16] [0,1,5]))))) (qr [] []))) Za14))
theorem c42:FB 42 []=some (r42,s42):=by kernel_rfl
def r48:RL:=[(2,none)]
def s48:SCode:=qR [Qf 2] [0] (qR [Qm 3 0,Qu 4 .geq 3 0,Qm 5 4,Bm 6 5 0,qb 7 5 (.bin .leq (.t 6) (qi 6)),Qp 8 5 7,Qm 2 8] [2] .ret)
theorem c48:FB 48 []=some (r48,s48):=by kernel_rfl
def r54:RL:=[(2,none)]
def s54:SCode:=qR Za11 [1] (qR [Ql 3 8 1,Q1 4 107 3,Qm 5 4,qb 6 5 (lm 8 1),qb 7 5 (.call (.f 108) [.t 6]),Qp 8 5 7,Qm 2 8] [2] .ret)
theorem c54:FB 54 [2000001]=some (r54,s54):=by kernel_rfl
def r78:RL:=[(2,none)]
def s78:SCode:=qR [Qf 2] [0] (qR [Qm 5 0,Q1 6 142 5,Qm 3 6] [0,3] (qs (qR [Qm 7 3,Qu 8 .lss 7 1,Qm 9 8,Ym 10 9 3,qc 11 9 (.bin .gtr (.t 10) (qi 4)),Qq 12 9 11,Qm 13 12,Ym 14 13 0,qc 15 13 (.index (.t 14) (qi 0)),qc 16 13 (.bin .eql (.t 15) (.c (.int .u8 48))),Qq 17 13 16,Qm 18 17,Ym 19 18 0,qc 20 18 (.lenS (.t 19)),Ym 21 18 3,qc 22 18 (.bin .sub (.t 20) (.t 21)),qc 23 18 (.bin .gtr (.t 22) (qi 3)),Qq 24 18 23] [0,3,24] (.cond (.t 24) Za1 .skip)) (qs (qR [Qm 25 3,Qm 4 25] [0,4] (qs (.block 0 (.loop (qs (qR [Qm 26 4,Qm 27 0,QN 28 27,Qv 29 .lss 26 28] [0,4,29] (qX 29)) (qs (qs (.block 1 (qR [Qm 32 0,Qm 33 4,QI 34 32 33,qa 35 (.bin .lss (.t 34) (.c (.int .u8 65))),Qm 36 35,Ym 37 36 0,Ym 38 36 4,qc 39 36 (.index (.t 37) (.t 38)),qc 40 36 (.bin .gtr (.t 39) (.c (.int .u8 90))),Qq 41 36 40] [0,4,41] (.cond (.t 41) Za1 .skip))) (qr [] [0,4])) (qr [Qm 30 4,Qu 31 .add 30 1,Qm 4 31] [0,4]))))) (qr [] []))) Za8)))
theorem c78:FB 78 []=some (r78,s78):=by kernel_rfl
def r81:RL:=[(2,none)]
def s81:SCode:=qR [Qf 2] [0] (qs (qR [Qm 4 0,QN 5 4,Qu 6 .lss 5 1,Qm 7 6,Ym 8 7 0,qc 9 7 (.lenS (.t 8)),qc 10 7 (.bin .gtr (.t 9) (qi 24)),Qq 11 7 10] [0,11] (.cond (.t 11) Za1 .skip)) (qs (qR [Qi 3 0] [0,3] (qs (.block 0 (.loop (qs (qR [Qm 12 3,Qm 13 0,QN 14 13,Qv 15 .lss 12 14] [0,3,15] (qX 15)) (qs (qs (.block 1 (qR [Qm 18 0,Qm 19 3,QI 20 18 19,qa 21 (.bin .lss (.t 20) (.c (.int .u8 33))),Qm 22 21,Ym 23 22 0,Ym 24 22 3,qc 25 22 (.index (.t 23) (.t 24)),qc 26 22 (.bin .gtr (.t 25) (.c (.int .u8 126))),Qq 27 22 26] [0,3,27] (.cond (.t 27) Za1 .skip))) (qr [] [0,3])) (qr [Qm 16 3,Qu 17 .add 16 1,Qm 3 17] [0,3]))))) (qr [] []))) Za8))
theorem c81:FB 81 []=some (r81,s81):=by kernel_rfl
def r84:RL:=[(2,some (true,8))]
def s84:SCode:=qR [QB 1 27 8 0,QU 2 27] [1,2] (qs (.drawT (.step (Qa 6 5 1) (.step (Qa 9 6 1) (.both (.step (Qo 7 6) (.both (.step (Q1 8 86 7) (.step (Qo 10 9) Za3)) (.step (Qo 10 9) (.step (Q1 8 86 7) Za3)))) (.step (Qo 10 9) (.step (Qo 7 6) (.step (Q1 8 86 7) Za3)))))) [1,2]) (qR [Qz 3] [1,2,3] (qs (qR [Qa 14 7 1,Qo 15 14,Qn 16 15,Qi 17 0] [1,2,3,15,16,17] (qs (.block 0 (.loop (qR [Qv 18 .lss 17 16] [1,2,3,15,16,17,18] (qs (qX 18) (qs (qs (.block 1 (qR [Qx 19 8 15 17,Ql 20 8 19,QU 5 27,QS 8 5 20] [1,2,3,5,15,16,17] (qr [Qm 21 3,Ql 22 8 5,Q1 23 84 22,qa 24 (.buildS 27 8 1 zU [(0,.t 23)]),qa 25 (.raw (.call (.mk (.builtin .append) #[.tmp 21,.tmp 24] #[25,25]))),Qm 3 25] [1,2,3,15,16,17]))) (qr [] [1,2,3,15,16,17])) (qr [Qu 26 .add 17 1,Qm 17 26] [1,2,3,15,16,17])))))) (qr [] [1,2,3]))) (qR [Qm 27 3,Qa 28 7 1,QS 1 28 27] [1,2] (qR [Ql 29 8 1,QS 8 2 29] [2] .ret)))))
theorem c84:FB 84 [3000025]=some (r84,s84):=by kernel_rfl
def r99:RL:=[(0,none)]
def s99:SCode:=qR [qa 0 (.mov (.c (.sc (.map none))))] [] (qR [qa 1 (.raw (.makeMap 144 none)),qa 2 (.build Za5 [(0,(1,.f 165)),(1,(1,.f 166))]),⟨none,none,.raw (.insert 144 (.tmp 1) (.const (.int .i64 0)) (.tmp 2))⟩,qa 3 (.build Za5 [(0,(1,.f 169)),(1,(1,.f 170))]),⟨none,none,.raw (.insert 144 (.tmp 1) (.const (.int .i64 1)) (.tmp 3))⟩,qa 4 (.build Za5 [(0,(1,.f 171)),(1,(1,.f 172))]),⟨none,none,.raw (.insert 144 (.tmp 1) (.const (.int .i64 2)) (.tmp 4))⟩,qa 5 (.build Za5 [(0,(1,.f 175)),(1,(1,.f 176))]),⟨none,none,.raw (.insert 144 (.tmp 1) (.const (.int .i64 3)) (.tmp 5))⟩,qa 6 (.build Za5 [(0,(1,.f 177)),(1,(1,.f 178))]),⟨none,none,.raw (.insert 144 (.tmp 1) (.const (.int .i64 4)) (.tmp 6))⟩,qa 7 (.build Za5 [(0,(1,.f 179)),(1,(1,.f 180))]),⟨none,none,.raw (.insert 144 (.tmp 1) (.const (.int .i64 5)) (.tmp 7))⟩,qa 8 (.build Za5 [(0,(1,.f 181)),(1,(1,.f 182))]),⟨none,none,.raw (.insert 144 (.tmp 1) (.const (.int .i64 6)) (.tmp 8))⟩,qa 9 (.load true 2 (.g 0)),⟨none,none,.raw (.insert 144 (.tmp 1) (.const (.int .i64 7)) (.tmp 9))⟩,qa 10 (.load true 2 (.g 0)),⟨none,none,.raw (.insert 144 (.tmp 1) (.const (.int .i64 8)) (.tmp 10))⟩,qa 11 (.load true 2 (.g 0)),⟨none,none,.raw (.insert 144 (.tmp 1) (.const (.int .i64 9)) (.tmp 11))⟩,qa 12 (.build Za5 [(0,(1,.f 183)),(1,(1,.f 184))]),⟨none,none,.raw (.insert 144 (.tmp 1) (.const (.int .i64 10)) (.tmp 12))⟩,qa 13 (.build Za5 [(0,(1,.f 186)),(1,(1,.f 187))]),⟨none,none,.raw (.insert 144 (.tmp 1) (.const (.int .i64 11)) (.tmp 13))⟩,Qm 14 1,Qm 0 14] [0] .ret)
theorem c99:FB 99 []=some (r99,s99):=by kernel_rfl
def r102:RL:=[(2,none)]
def s102:SCode:=qR [Qb 1 3 0,Qf 2] [1] (qs (qR [Qa 3 0 1,Qo 4 3] [1,4] (qs (.block 0 (qs (qR [Qu 6 .eql 4 0,Qm 5 6] [1,4,5] (.cond (.t 5) .skip (qr [Qu 7 .eql 4 2,Qm 5 7] [1,4,5]))) (.cond (.t 5) (qR [Qa 8 1 1,Qo 9 8,Qu 10 .eql 9 0,Qm 11 10,qb 12 11 (fa 2 1),qb 13 11 (lo 12),qb 14 11 (.bin .eql (.t 13) (.c (.str []))),Qp 15 11 14,Qm 2 15] [2] .ret) (qR [Qu 17 .eql 4 1,Qm 16 17] [1,4,16] (.cond (.t 16) (qR [Qa 18 1 1,Qo 19 18,qa 20 (.call (.f 185) [.t 19,qi 0,qi 1048576]),Qm 21 20,qb 22 21 (fa 2 1),qb 23 21 (lo 22),qb 24 21 (.bin .eql (.t 23) (.c (.str []))),Qp 25 21 24,Qm 2 25] [2] .ret) (qR [Qu 27 .eql 4 3,Qm 26 27] [1,26] (.cond (.t 26) (qR [Qa 28 1 1,Qo 29 28,Qu 30 .eql 29 0,Qm 31 30,qb 32 31 (fa 2 1),qb 33 31 (lo 32),qb 34 31 (.call (.f 101) [.t 33]),Qp 35 31 34,Qm 2 35] [2] .ret) .skip))))))) (qr [] []))) Za1)
theorem c102:FB 102 [2000001]=some (r102,s102):=by kernel_rfl
def r108:RL:=[(2,none)]
def s108:SCode:=qR Za11 [1] (qs (qR [Qa 4 3 1,Qo 5 4,Qu 6 .neq 5 0,Qm 7 6,qb 8 7 (fa 0 1),qb 9 7 (lm 3 8),qb 10 7 (.build Za2 []),qb 11 7 (.eqs false [1,1,1] (.t 9) (.t 10)),Qp 12 7 11] [1,12] (.cond (.t 12) Za1 .skip)) (qs (qR [Qi 3 0] [1,3] (qs (.block 0 (.loop (qs (qR [Qm 13 3,Qa 14 7 1,Qo 15 14,Qn 16 15,Qv 17 .lss 13 16] [1,3,17] (qX 17)) (qs (qs (.block 1 (qR [Qa 20 7 1,Qo 21 20,Qm 22 3,Qx 23 8 21 22,Ql 24 8 23,Q1 25 108 24,Qr 26 25] [1,3,26] (.cond (.t 26) Za1 .skip))) (qr [] [1,3])) (qr [Qm 18 3,Qu 19 .add 18 1,Qm 3 19] [1,3]))))) (qr [] []))) Za8))
theorem c108:FB 108 [2000001]=some (r108,s108):=by kernel_rfl
def r129:RL:=[(2,none)]
def s129:SCode:=qR [Qf 2] [0] (qR [Qm 7 0,Q1 8 217 7,Qm 6 8,Qe 9 0 6,Qe 10 1 6,Qm 3 9,Qm 4 10] [3,4] (qR [qa 5 (.mov (.f 218))] [3,4,5] (qR [Qm 11 3,QN 12 11,Qu 13 .geq 12 1,Qm 14 13,Bm 15 14 3,qb 16 14 (.lenS (.t 15)),qb 17 14 (.bin .leq (.t 16) (qi 4)),Qp 18 14 17,Qm 19 18,Bm 20 19 3,qb 21 19 (.index (.t 20) (qi 0)),qb 22 19 (.bin .neq (.t 21) (.c (.int .u8 48))),Qp 23 19 22,Qm 24 23,Bm 25 24 4,qb 26 24 (.lenS (.t 25)),qb 27 24 (.bin .leq (.t 26) (qi 3)),Qp 28 24 27,Qm 29 28,Bm 30 29 4,Bm 31 29 5,qb 32 29 (.call (.f 219) [.t 30,.t 31]),qb 33 29 (.not (.t 32)),Qp 34 29 33,Qm 2 34] [2] .ret)))
theorem c129:FB 129 []=some (r129,s129):=by kernel_rfl
def r138:RL:=[(2,none)]
def s138:SCode:=qR [Qb 1 8 0,Qi 2 0] [1] (qR [Qi 3 1] [1,3] (qs (qR [Qi 4 0] [1,3,4] (qs (.block 0 (.loop (qs (qR [Qm 5 4,Qa 6 7 1,Qo 7 6,Qn 8 7,Qv 9 .lss 5 8] [1,3,4,9] (qX 9)) (qs (qs (.block 1 (qr [Qm 12 3,Qa 13 7 1,Qo 14 13,Qm 15 4,Qx 16 8 14 15,Ql 17 8 16,Q1 18 138 17,Qv 19 .add 12 18,Qm 3 19] [1,3,4])) (qr [] [1,3,4])) (qr [Qm 10 4,Qu 11 .add 10 1,Qm 4 11] [1,3,4]))))) (qr [] [3]))) (qR [Qm 20 3,Qm 2 20] [2] .ret)))
theorem c138:FB 138 [2000001]=some (r138,s138):=by kernel_rfl
def r165:RL:=[(2,some (true,25))]
def s165:SCode:=qR Za4 [1,2] (qR [Qa 3 3 1,Qo 4 3,Qa 5 5 1,Ql 6 8 5,qa 7 (.build zItm [(3,(1,.t 4)),(5,(8,.t 6))]),QS 25 2 7] [2] .ret)
theorem c165:FB 165 [2000001]=some (r165,s165):=by kernel_rfl
def r168:RL:=[(2,none)]
def s168:SCode:=qR Za11 [1] (qR [Ql 6 8 1,Q1 7 248 6,Qm 5 7,Qe 8 0 5,Qe 9 1 5,Qm 3 8,Qm 4 9] [1,4] (qR [Ql 10 8 1,Q1 11 249 10,Qm 12 11,qb 13 12 (fa 3 1),qb 14 12 (lo 13),qb 15 12 (.bin .neq (.t 14) (qi 0)),Qp 16 12 15,Qm 17 16,Bm 18 17 4,qb 19 17 (.bin .eql (.t 18) (qi 0)),Qp 20 17 19,Qm 2 20] [2] .ret))
theorem c168:FB 168 [2000001]=some (r168,s168):=by kernel_rfl
def r171:RL:=[(2,some (true,25))]
def s171:SCode:=qR Za4 [1,2] Za7
theorem c171:FB 171 [2000001]=some (r171,s171):=by kernel_rfl
def r174:RL:=[(2,none)]
def s174:SCode:=qR Za10 [1] (qR [Qa 3 4 1,Qo 4 3,qa 5 (.call (.f 185) [.t 4,qi 0,qi 256]),Qm 2 5] [2] .ret)
theorem c174:FB 174 [2000001]=some (r174,s174):=by kernel_rfl
def r177:RL:=[(2,some (true,25))]
def s177:SCode:=qR Za4 [1,2] (qR [Qa 3 14 1,Qo 4 3,qa 5 (.build zItm [(14,(1,.t 4))]),QS 25 2 5] [2] .ret)
theorem c177:FB 177 [2000001]=some (r177,s177):=by kernel_rfl
def r180:RL:=[(2,none)]
def s180:SCode:=qR Za10 [1] (qR [Qa 3 15 1,Qo 4 3,Q1 5 129 4,Qm 2 5] [2] .ret)
theorem c180:FB 180 [2000001]=some (r180,s180):=by kernel_rfl
def r183:RL:=[(2,some (true,25))]
def s183:SCode:=qR Za4 [1,2] (qR [Qa 3 23 1,Qo 4 3,Qa 5 22 1,Qo 6 5,qa 7 (.build zItm [(23,(1,.t 4)),(22,(1,.t 6))]),QS 25 2 7] [2] .ret)
theorem c183:FB 183 [2000001]=some (r183,s183):=by kernel_rfl
def r186:RL:=[(2,some (true,25))]
def s186:SCode:=qR Za4 [1,2] (qR [Qa 3 20 1,Qo 4 3,Qa 5 21 1,Qo 6 5,Qa 7 24 1,Qo 8 7,qa 9 (.build zItm [(20,(1,.t 4)),(21,(1,.t 6)),(24,(1,.t 8))]),QS 25 2 9] [2] .ret)
theorem c186:FB 186 [2000001]=some (r186,s186):=by kernel_rfl
def r189:RL:=[(2,none)]
def s189:SCode:=qR [Qb 1 2 0,Qf 2] [1] (qR [Qa 3 0 1,Qo 4 3,Qu 5 .eql 4 0,Qm 6 5,qb 7 6 (fa 1 1),qb 8 6 (lo 7),qb 9 6 (.bin .eql (.t 8) (.c (.str []))),Qp 10 6 9,Qm 2 10] [2] .ret)
theorem c189:FB 189 [2000001]=some (r189,s189):=by kernel_rfl
def r192:RL:=[(4,none)]
def s192:SCode:=qR [Qf 4] [0,1] (qs Za12 (qs (qR [Qm 11 0,Qn 12 11,Qi 13 0] [0,1,12,13] (qs (.block 0 (.loop (qR [Qv 14 .lss 13 12] [0,1,12,13,14] (qs (qX 14) (qs (qs (.block 1 (qR [Qm 15 13,Qm 5 15] [0,1,5,12,13] (qs (.draw [Qm 16 0,Qm 17 5,Qx 18 1 16 17,Qo 19 18,Qm 20 1,Qm 21 5,Qx 22 1 20 21,Qo 23 22,Qv 24 .neq 19 23] [0,1,12,13,24]) (.cond (.t 24) Za9 .skip)))) (qr [] [0,1,12,13])) (qr [Qu 25 .add 13 1,Qm 13 25] [0,1,12,13])))))) (qr [] []))) Za14))
theorem c192:FB 192 []=some (r192,s192):=by kernel_rfl
def r198:RL:=[(2,none)]
def s198:SCode:=qR Za11 [1] (qR [Ql 8 8 1,Q1 9 56 8,Qm 3 9] [1,3] (qR [Qt 4] [1,3,4] (qs (qR [Qi 5 0] [1,3,4,5] (qs (.block 0 (.loop (qs (qR [Qm 10 5,Qm 11 3,Qn 12 11,Qv 13 .lss 10 12] [1,3,4,5,13] (qX 13)) (qs (qs (.block 1 (qr [Qm 16 4,Qm 17 16,Bm 18 17 3,Bm 19 17 5,qb 20 17 (.indexA 3 (.t 18) (.t 19)),qb 21 17 (lm 3 20),qb 22 17 (.build Za2 []),qb 23 17 (.eqs false [1,1,1] (.t 21) (.t 22)),Qp 24 17 23,Qm 4 24] [1,3,4,5])) (qr [] [1,3,4,5])) (qr [Qm 14 5,Qu 15 .add 14 1,Qm 5 15] [1,3,4,5]))))) (qr [] [1,3,4]))) (qs (qR [Qm 25 4] [1,3,25] (.cond (.t 25) Za8 .skip)) (qs (qs (.drawL [Qm 26 3,qa 27 (.indexA 3 (.t 26) (qi 0)),qa 29 (.build Za2 []),Qa 31 3 1,qa 32 (.loadF false 1 (.t 31)),Qu 33 .eql 32 0,Ql 28 3 27,qa 30 (.eqs false [1,1,1] (.t 28) (.t 29)),qa 34 (.eqb true (.t 30) (.t 33))] [3,34]) (.cond (.t 34) Za1 .skip)) (qs (qR [Qi 6 0] [3,6] (qs (.block 2 (.loop (qs (qR [Qm 35 6,Qm 36 3,Qn 37 36,Qv 38 .lss 35 37] [3,6,38] (.cond (.t 38) .skip (.exit 2))) (qs (qs (.block 3 (qR [Qi 7 0] [3,6,7] (qs (.block 4 (.loop (qs (qR [Qm 41 7,Qm 42 6,Qv 43 .lss 41 42] [3,6,7,43] (.cond (.t 43) .skip (.exit 4))) (qs (qs (.block 5 (qs (.draw [Qm 46 3,Qm 47 7,Qx 48 3 46 47,Ql 49 3 48,Qm 50 3,Qm 51 6,Qx 52 3 50 51,Ql 53 3 52,qa 54 (.eqs false [1,1,1] (.t 49) (.t 53))] [3,6,7,54]) (.cond (.t 54) Za1 .skip))) (qr [] [3,6,7])) (qr [Qm 44 7,Qu 45 .add 44 1,Qm 7 45] [3,6,7]))))) (qr [] [3,6])))) (qr [] [3,6])) (qr [Qm 39 6,Qu 40 .add 39 1,Qm 6 40] [3,6]))))) (qr [] []))) Za8))))))
theorem c198:FB 198 [2000001]=some (r198,s198):=by kernel_rfl
def r213:RL:=[(4,none)]
def s213:SCode:=qR [Qf 4] [0,1] (qR [Qm 5 0,Qm 6 1,Q2 7 266 5 6,Qu 8 .geq 7 0,Qm 4 8] [4] .ret)
theorem c213:FB 213 []=some (r213,s213):=by kernel_rfl
def r225:RL:=[(4,none)]
def s225:SCode:=qR [Qf 4] [0,1] (qR [Qm 5 0,Qm 6 1,Q2 7 272 5 6,Qu 8 .geq 7 0,Qm 4 8] [4] .ret)
theorem c225:FB 225 []=some (r225,s225):=by kernel_rfl
def r237:RL:=[(4,none)]
def s237:SCode:=qR [Qb 2 8 0,Qf 4] [1,2] (qs (qR [Qm 7 1,Ql 8 8 2,qa 9 (.call (.t 7) [.t 8]),Qr 10 9] [1,2,10] (.cond (.t 10) Za9 .skip)) (qs (qR [Qa 11 7 2,Qo 12 11,Qn 13 12,Qi 14 0] [1,12,13,14] (qs (.block 0 (.loop (qR [Qv 15 .lss 14 13] [1,12,13,14,15] (qs (qX 15) (qs (qs (.block 1 (qR [Qx 16 8 12 14,Ql 17 8 16,QU 6 27,QS 8 6 17] [1,6,12,13,14] (qR [Ql 18 8 6,Qm 19 1,Q2 20 237 18 19,Qr 21 20] [1,12,13,14,21] (.cond (.t 21) Za9 .skip)))) (qr [] [1,12,13,14])) (qr [Qu 22 .add 14 1,Qm 14 22] [1,12,13,14])))))) (qr [] []))) Za14))
theorem c237:FB 237 [2000002]=some (r237,s237):=by kernel_rfl
def r249:RL:=[(2,none)]
def s249:SCode:=qR Za11 [1] (qR [Ql 3 8 1,Q1 4 200 3,Qm 5 4,qb 6 5 (lm 8 1),qb 7 5 (.call (.f 237) [.t 6,.f 280]),Qp 8 5 7,Qm 2 8] [2] .ret)
theorem c249:FB 249 [2000001]=some (r249,s249):=by kernel_rfl
def r258:RL:=[(6,none)]
def s258:SCode:=qR [Qf 6] [0,1,2] (qs (qR [Qm 10 0,Qn 11 10,Qm 12 1,Qn 13 12,Qv 14 .neq 11 13] [0,1,2,14] (.cond (.t 14) (qR [Qf 6] [6] .ret) .skip)) (qs (qR [Qm 15 0,Qn 16 15,Qi 17 0] [1,2,15,16,17] (qs (.block 0 (.loop (qR [Qv 18 .lss 17 16] [1,2,15,16,17,18] (qs (qX 18) (qs (qs (.block 1 (qR [Qm 19 17,Qx 20 8 15 17,Ql 21 8 20,QU 8 27,Qm 7 19,QS 8 8 21] [1,2,7,8,15,16,17] (qR [Qm 22 1,Qm 23 7,Qx 24 8 22 23,Ql 25 8 24,QU 9 27,QS 8 9 25] [1,2,8,9,15,16,17] (qR [Qm 26 2,Ql 27 8 8,Ql 28 8 9,qa 29 (.call (.t 26) [.t 27,.t 28]),Qr 30 29] [1,2,15,16,17,30] (.cond (.t 30) (qR [Qf 6] [6] .ret) .skip))))) Za16) (qr [Qu 31 .add 17 1,Qm 17 31] [1,2,15,16,17])))))) (qr [] []))) (qR [Qt 6] [6] .ret)))
theorem c258:FB 258 []=some (r258,s258):=by kernel_rfl
def r264:RL:=[(2,none)]
def s264:SCode:=qR Za11 [1] (qs (qR [Qa 7 3 1,Qo 8 7,Qu 9 .eql 8 0] [1,9] (.cond (.t 9) (qR [Qa 10 4 1,Qo 11 10,qa 12 (.bin .neq (.t 11) (.c (.str []))),Qm 13 12,qc 14 13 (fa 5 1),qc 15 13 (lo 14),qc 16 13 (.len (.t 15)),qc 17 13 (fa 6 1),qc 18 13 (lo 17),qc 19 13 (.len (.t 18)),qc 20 13 (.bin .add (.t 16) (.t 19)),qc 21 13 (.bin .gtr (.t 20) (qi 0)),Qq 22 13 21] [1,22] (.cond (.t 22) Za1 .skip)) (qR [Qa 23 3 1,Qo 24 23,Q1 25 292 24,qa 26 (.bin .eql (.t 25) (.c (.str []))),Qm 27 26,qc 28 27 (fa 4 1),qc 29 27 (lo 28),qc 30 27 (.call (.f 129) [.t 29]),qc 31 27 (.not (.t 30)),Qq 32 27 31,Qm 33 32,qc 34 33 (fa 5 1),qc 35 33 (lo 34),qc 36 33 (.call (.f 293) [.t 35]),qc 37 33 (.not (.t 36)),Qq 38 33 37,Qm 39 38,qc 40 39 (fa 6 1),qc 41 39 (lo 40),qc 42 39 (.call (.f 293) [.t 41]),qc 43 39 (.not (.t 42)),Qq 44 39 43] [1,44] (.cond (.t 44) Za1 .skip)))) (qR [qa 45 (.raw (.makeMap 264 none)),Qm 3 45] [1,3] (qs (qR [Qa 46 7 1,Qo 47 46,Qn 48 47,Qi 49 0] [1,3,47,48,49] (qs (.block 0 (.loop (qR [Qv 50 .lss 49 48] [1,3,47,48,49,50] (qs (qX 50) (qs (qs (.block 1 (qR [Qx 51 8 47 49,Ql 52 8 51,QU 5 27,QS 8 5 52] [1,3,5,47,48,49] (qR [Qa 53 3 5,Qo 54 53,Qa 55 4 5,Qo 56 55,qa 57 (.build [.int .i64 0,.str []] [(0,(1,.t 54)),(1,(1,.t 56))]),qa 6 (.alloc 266 [.int .i64 0,.str []]),QS 2 6 57] [1,3,5,6,47,48,49] (qs (qR [Qa 58 3 1,Qo 59 58,Qa 60 3 5,Qo 61 60,Q2 62 122 59 61,Qr 63 62,Qm 64 63,Ym 65 64 3,qc 66 64 (lm 2 6),qc 67 64 (.raw (.lookup 264 (.tmp 65) (.tmp 66) false)),Qq 68 64 67] [1,3,6,47,48,49,68] (.cond (.t 68) Za1 .skip)) (qr [Qm 69 3,Ql 70 2 6,⟨none,none,.raw (.mapUpdate 264 (.tmp 69) (.tmp 70) (.const (.bool true)))⟩] [1,3,47,48,49]))))) (qr [] [1,3,47,48,49])) (qr [Qu 71 .add 49 1,Qm 49 71] [1,3,47,48,49])))))) (qr [] [1]))) (qR [Qa 72 7 1,Qo 73 72,Qn 74 73,Qu 75 .leq 74 64,Qm 2 75] [2] .ret))))
theorem c264:FB 264 [2000001]=some (r264,s264):=by kernel_rfl
def r270:RL:=[(2,none)]
def s270:SCode:=qR [Qf 2] [0] (qR [Qm 3 0,Q1 4 271 3,Qr 5 4,Qm 2 5] [2] .ret)
theorem c270:FB 270 []=some (r270,s270):=by kernel_rfl
def r291:RL:=[(2,none)]
def s291:SCode:=qR [Qf 2] [0] (qR [Qm 3 0,Qn 4 3,Qu 5 .leq 4 256,Qm 6 5,Bm 7 6 0,qb 8 6 (.call (.f 317) [.t 7]),qb 9 6 (.call (.f 316) [.t 8]),Qp 10 6 9,Qm 2 10] [2] .ret)
theorem c291:FB 291 []=some (r291,s291):=by kernel_rfl
def r297:RL:=[(4,none)]
def s297:SCode:=qR [Qf 4] [0,1] (qR [Qm 5 0,Qm 6 1,Q2 7 318 5 6,Qu 8 .geq 7 0,Qm 4 8] [4] .ret)
theorem c297:FB 297 []=some (r297,s297):=by kernel_rfl
def r309:RL:=[(4,none)]
def s309:SCode:=qR [Qb 2 8 0,qa 4 (.mov (.c (.str [])))] [1,2] (qs (qR [Ql 6 8 2,Qm 7 1,Q2 8 319 6 7,Qr 9 8] [1,2,9] (.cond (.t 9) (qR [qa 4 (.mov (.c (.str [])))] [4] .ret) .skip)) (qs (.drawL [Qm 10 1,Qa 12 3 2,qa 13 (.loadF false 1 (.t 12)),qa 11 (.call (.f 320) [.c (.str [32,32]),.t 10]),Q1 14 292 13,Qv 15 .add 11 14,Qm 5 15] [2,5]) (qs (qR [Qa 16 3 2,Qo 17 16,Qu 18 .neq 17 0] [2,5,18] (.cond (.t 18) (qr [Qm 19 5,Qa 20 4 2,Qo 21 20,qa 22 (.bin .add (.c (.str [32])) (.t 21)),Qv 23 .add 19 22,Qm 5 23] [2,5]) .skip)) (qs (qR [Qa 24 5 2,Qo 25 24,Qn 26 25,Qu 27 .gtr 26 0] [2,5,27] (.cond (.t 27) (qr [Qm 28 5,qa 29 (.bin .add (.t 28) (.c (.str [58]))),Qa 30 5 2,Qo 31 30,Q2 32 321 29 31,Qm 5 32] [2,5]) .skip)) (qs (qR [Qa 33 6 2,Qo 34 33,Qn 35 34,Qu 36 .gtr 35 0] [2,5,36] (.cond (.t 36) (qr [Qm 37 5,qa 38 (.bin .add (.t 37) (.c (.str [32,124]))),Qa 39 6 2,Qo 40 39,Q2 41 321 38 40,Qm 5 41] [5]) .skip)) (qR [Qm 42 5,Qm 4 42] [4] .ret))))))
theorem c309:FB 309 [2000002]=some (r309,s309):=by kernel_rfl
def r318:RL:=[(4,none)]
def s318:SCode:=qR [Qi 4 0] [0,1] Za0
theorem c318:FB 318 []=some (r318,s318):=by kernel_rfl
def r321:RL:=[(4,none)]
def s321:SCode:=qR [qa 4 (.mov (.c (.str [])))] [0,1] (qs (qR [Qm 7 1,Qn 8 7,Qi 9 0] [0,7,8,9] (qs (.block 0 (.loop (qR [Qv 10 .lss 9 8] [0,7,8,9,10] (qs (qX 10) (qs (qs (.block 1 (qR [Qx 11 4 7 9,Ql 12 4 11,qa 6 (.alloc 33 [.str [],.int .i64 0,.int .i64 0,.int .i64 0]),QS 4 6 12] [0,6,7,8,9] (qR [Qm 13 0,qa 14 (.bin .add (.t 13) (.c (.str [32]))),Qm 0 14] [0,6,7,8,9] (qs (qR [Qa 15 0 6,Qo 16 15,qa 17 (.index (.t 16) (qi 0)),qa 18 (.bin .eql (.t 17) (.c (.int .u8 124))),Qm 19 18,qc 20 19 (fa 0 6),qc 21 19 (lo 20),qc 22 19 (.index (.t 21) (qi 0)),qc 23 19 (.bin .eql (.t 22) (.c (.int .u8 92))),Qq 24 19 23] [0,6,7,8,9,24] (.cond (.t 24) (qr [Qm 25 0,qa 26 (.bin .add (.t 25) (.c (.str [92]))),Qm 0 26] [0,6,7,8,9]) .skip)) (qr [Qm 27 0,Qa 28 0 6,Qo 29 28,Qv 30 .add 27 29,Qm 0 30] [0,7,8,9]))))) (qr [] [0,7,8,9])) (qr [Qu 31 .add 9 1,Qm 9 31] [0,7,8,9])))))) (qr [] [0]))) (qR [Qm 32 0,Qm 4 32] [4] .ret))
theorem c321:FB 321 []=some (r321,s321):=by kernel_rfl
def r354:RL:=[(2,none)]
def s354:SCode:=qR Za10 [1] (qR [Ql 3 25 1,qa 4 (.call (.f 188) [.t 3,qi (-1)]),Qm 5 4,qb 6 5 (fa 22 1),qb 7 5 (lo 6),qb 8 5 (.call (.f 185) [.t 7,qi 0,qi 1048576]),Qp 9 5 8,Qm 2 9] [2] .ret)
theorem c354:FB 354 [2000001]=some (r354,s354):=by kernel_rfl
def r16:RL:=[(4,none)]
def s16:SCode:=qR [Qb 2 8 0,Qb 3 8 1,Qf 4] [2,3] (qs (qR [Qa 6 0 2,Ql 7 3 6,Qa 8 0 3,Ql 9 3 8,qa 10 (.eqs true [1,1,1] (.t 7) (.t 9)),Qm 11 10,qc 12 11 (fa 3 2),qc 13 11 (lo 12),qc 14 11 (fa 3 3),qc 15 11 (lo 14),qc 16 11 (.bin .neq (.t 13) (.t 15)),Qq 17 11 16,Qm 18 17,qc 19 18 (fa 4 2),qc 20 18 (lo 19),qc 21 18 (fa 4 3),qc 22 18 (lo 21),qc 23 18 (.bin .neq (.t 20) (.t 22)),Qq 24 18 23,Qm 25 24,qc 26 25 (fa 5 2),qc 27 25 (lo 26),qc 28 25 (fa 5 3),qc 29 25 (lo 28),qc 30 25 (.call (.f 42) [.t 27,.t 29]),qc 31 25 (.not (.t 30)),Qq 32 25 31,Qm 33 32,qc 34 33 (fa 6 2),qc 35 33 (lo 34),qc 36 33 (fa 6 3),qc 37 33 (lo 36),qc 38 33 (.call (.f 42) [.t 35,.t 37]),qc 39 33 (.not (.t 38)),Qq 40 33 39,Qm 41 40,qc 42 41 (fa 7 2),qc 43 41 (lo 42),qc 44 41 (.len (.t 43)),qc 45 41 (fa 7 3),qc 46 41 (lo 45),qc 47 41 (.len (.t 46)),qc 48 41 (.bin .neq (.t 44) (.t 47)),Qq 49 41 48] [2,3,49] (.cond (.t 49) Za9 .skip)) (qs (qR [Qi 5 0] [2,3,5] (qs (.block 0 (.loop (qs (qR [Qm 50 5,Qa 51 7 2,Qo 52 51,Qn 53 52,Qv 54 .lss 50 53] [2,3,5,54] (qX 54)) (qs (qs (.block 1 (qs (.drawT (.step (Qa 57 7 2) (.step (qa 58 (.loadF false 1 (.t 57))) (.step (Qm 59 5) (.step (Qx 60 8 58 59) (.step (Qa 62 7 3) (.step (qa 63 (.loadF false 1 (.t 62))) (.step (Qm 64 5) (.step (Qx 65 8 63 64) (.both (.step (Ql 61 8 60) (.step (Ql 66 8 65) Za13)) (.step (Ql 66 8 65) (.step (Ql 61 8 60) Za13))))))))))) [2,3,5,68]) (.cond (.t 68) Za9 .skip))) (qr [] [2,3,5])) (qr [Qm 55 5,Qu 56 .add 55 1,Qm 5 56] [2,3,5]))))) (qr [] []))) Za14))
theorem c16:FB 16 [2000002,2000003]=some (r16,s16):=by kernel_rfl
def r25:RL:=[(2,none)]
def s25:SCode:=qR Za11 [1] (qs (qR [Qa 4 4 1,Qo 5 4,QN 6 5,Qu 7 .gtr 6 30,Qm 8 7,qc 9 8 (fa 5 1),qc 10 8 (lo 9),qc 11 8 (.call (.f 50) [.t 10]),qc 12 8 (.not (.t 11)),Qq 13 8 12,Qm 14 13,qc 15 14 (fa 6 1),qc 16 14 (lo 15),qc 17 14 (.call (.f 50) [.t 16]),qc 18 14 (.not (.t 17)),Qq 19 14 18] [1,19] (.cond (.t 19) Za1 .skip)) (qs (qR [Qi 3 0] [1,3] (qs (.block 0 (.loop (qs (qR [Qm 20 3,Qa 21 7 1,Qo 22 21,Qn 23 22,Qv 24 .lss 20 23] [1,3,24] (qX 24)) (qs (qs (.block 1 (qR [Qa 27 7 1,Qo 28 27,Qm 29 3,Qx 30 8 28 29,Ql 31 8 30,Q1 32 25 31,Qr 33 32] [1,3,33] (.cond (.t 33) Za1 .skip))) (qr [] [1,3])) (qr [Qm 25 3,Qu 26 .add 25 1,Qm 3 26] [1,3]))))) (qr [] []))) Za8))
theorem c25:FB 25 [2000001]=some (r25,s25):=by kernel_rfl
def r55:RL:=[(2,none)]
def s55:SCode:=qR Za10 [1] (qs (qR [Qa 8 1 1,Qo 9 8,Qn 10 9,Qu 11 .gtr 10 12,Qm 12 11,qc 13 12 (fa 2 1),qc 14 12 (lo 13),qc 15 12 (.len (.t 14)),qc 16 12 (.bin .gtr (.t 15) (qi 12)),Qq 17 12 16,Qm 18 17,qc 19 18 (fa 13 1),qc 20 18 (lo 19),qc 21 18 (.len (.t 20)),qc 22 18 (.bin .gtr (.t 21) (qi 300)),Qq 23 18 22,Qm 24 23,qc 25 24 (fa 14 1),qc 26 24 (lo 25),qc 27 24 (.len (.t 26)),qc 28 24 (.bin .gtr (.t 27) (qi 300)),Qq 29 24 28,Qm 30 29,qc 31 30 (fa 15 1),qc 32 30 (lo 31),qc 33 30 (.lenS (.t 32)),qc 34 30 (.bin .gtr (.t 33) (qi 100)),Qq 35 30 34,Qm 36 35,qc 37 36 (fa 16 1),qc 38 36 (lo 37),qc 39 36 (.lenS (.t 38)),qc 40 36 (.bin .gtr (.t 39) (qi 100)),Qq 41 36 40,Qm 42 41,qc 43 42 (fa 17 1),qc 44 42 (fa 2 43),qc 45 42 (lo 44),qc 46 42 (.lenS (.t 45)),qc 47 42 (.bin .gtr (.t 46) (qi 100)),Qq 48 42 47,Qm 49 48,qc 50 49 (fa 23 1),qc 51 49 (lo 50),qc 52 49 (.lenS (.t 51)),qc 53 49 (.bin .gtr (.t 52) (qi 100)),Qq 54 49 53,Qm 55 54,qc 56 55 (fa 24 1),qc 57 55 (lo 56),qc 58 55 (.len (.t 57)),qc 59 55 (.bin .gtr (.t 58) (qi 2)),Qq 60 55 59,Qm 61 60,qc 62 61 (fa 5 1),qc 63 61 (lm 8 62),qc 64 61 (.call (.f 9) [.t 63,qi 30]),qc 65 61 (.not (.t 64)),Qq 66 61 65] [1,66] (.cond (.t 66) Za1 .skip)) (qs (qR [Qi 3 0] [1,3] (qs (.block 0 (.loop (qs (qR [Qm 67 3,Qa 68 13 1,Qo 69 68,Qn 70 69,Qv 71 .lss 67 70] [1,3,71] (qX 71)) (qs (qs (.block 1 (qR [Qa 74 13 1,Qo 75 74,Qm 76 3,Qx 77 1 75 76,Qo 78 77,QN 79 78,Qu 80 .gtr 79 100] [1,3,80] (.cond (.t 80) Za1 .skip))) (qr [] [1,3])) (qr [Qm 72 3,Qu 73 .add 72 1,Qm 3 73] [1,3]))))) (qr [] [1]))) (qs (qR [Qi 4 0] [1,4] (qs (.block 2 (.loop (qs (qR [Qm 81 4,Qa 82 14 1,Qo 83 82,Qn 84 83,Qv 85 .lss 81 84] [1,4,85] (.cond (.t 85) .skip (.exit 2))) (qs (qs (.block 3 (qR [Qa 88 14 1,Qo 89 88,Qm 90 4,Qx 91 1 89 90,Qo 92 91,QN 93 92,Qu 94 .gtr 93 100] [1,4,94] (.cond (.t 94) Za1 .skip))) (qr [] [1,4])) (qr [Qm 86 4,Qu 87 .add 86 1,Qm 4 87] [1,4]))))) (qr [] [1]))) (qs (qR [Qi 5 0] [1,5] (qs (.block 4 (.loop (qs (qR [Qm 95 5,Qa 96 1 1,Qo 97 96,Qn 98 97,Qv 99 .lss 95 98] [1,5,99] (.cond (.t 99) .skip (.exit 4))) (qs (qs (.block 5 (qR [Qa 102 1 1,Qo 103 102,Qm 104 5,Qx 105 2 103 104,Qa 106 1 105,Qo 107 106,QN 108 107,Qu 109 .gtr 108 100] [1,5,109] (.cond (.t 109) Za1 .skip))) (qr [] [1,5])) (qr [Qm 100 5,Qu 101 .add 100 1,Qm 5 101] [1,5]))))) (qr [] [1]))) (qs (qR [Qi 6 0] [1,6] (qs (.block 6 (.loop (qs (qR [Qm 110 6,Qa 111 2 1,Qo 112 111,Qn 113 112,Qv 114 .lss 110 113] [1,6,114] (.cond (.t 114) .skip (.exit 6))) (qs (qs (.block 7 (qR [Qa 117 2 1,Qo 118 117,Qm 119 6,Qx 120 2 118 119,Qa 121 1 120,Qo 122 121,QN 123 122,Qu 124 .gtr 123 100] [1,6,124] (.cond (.t 124) Za1 .skip))) (qr [] [1,6])) (qr [Qm 115 6,Qu 116 .add 115 1,Qm 6 116] [1,6]))))) (qr [] [1]))) (qs (qR [Qi 7 0] [1,7] (qs (.block 8 (.loop (qs (qR [Qm 125 7,Qa 126 24 1,Qo 127 126,Qn 128 127,Qv 129 .lss 125 128] [1,7,129] (.cond (.t 129) .skip (.exit 8))) (qs (qs (.block 9 (qR [Qa 132 24 1,Qo 133 132,Qm 134 7,Qx 135 25 133 134,Qa 136 24 135,Qo 137 136,Qn 138 137,Qu 139 .gtr 138 0,Qm 140 139,qb 141 140 (fa 24 1),qb 142 140 (lo 141),Bm 143 140 7,qb 144 140 (.indexA 25 (.t 142) (.t 143)),qb 145 140 (fa 24 144),qb 146 140 (lo 145),qb 147 140 (.indexA 25 (.t 146) (qi 0)),qb 148 140 (fa 24 147),qb 149 140 (lo 148),qb 150 140 (.len (.t 149)),qb 151 140 (.bin .gtr (.t 150) (qi 0)),Qp 152 140 151,Qm 153 152,qc 154 153 (fa 24 1),qc 155 153 (lo 154),Ym 156 153 7,qc 157 153 (.indexA 25 (.t 155) (.t 156)),qc 158 153 (lm 25 157),qc 159 153 (.call (.f 55) [.t 158]),qc 160 153 (.not (.t 159)),Qq 161 153 160] [1,7,161] (.cond (.t 161) Za1 .skip))) (qr [] [1,7])) (qr [Qm 130 7,Qu 131 .add 130 1,Qm 7 131] [1,7]))))) (qr [] []))) Za8))))))
theorem c55:FB 55 [2000001]=some (r55,s55):=by kernel_rfl
def r100:RL:=[(2,none)]
def s100:SCode:=qR [Qf 2] [0] (qs (qR [Qm 5 0,Qn 6 5,Qi 7 0] [0,5,6,7] (qs (.block 0 (.loop (qR [Qv 8 .lss 7 6] [0,5,6,7,8] (qs (qX 8) (qs (qs (.block 1 (qR [Qm 9 7,Qx 10 2 5 7,Ql 11 2 10,qa 4 (.alloc 152 [.int .i64 0,.str []]),Qm 3 9,QS 2 4 11] [0,3,4,5,6,7] (qs (qR [Qm 12 3,Qu 13 .eql 12 0,Qm 14 13,qb 15 14 (lm 2 4),qb 16 14 (.call (.f 189) [.t 15]),Qp 17 14 16] [0,4,5,6,7,17] (.cond (.t 17) (.exit 1) .skip)) (qR [Qa 18 0 4,Qo 19 18,Qu 20 .leq 19 0,Qm 21 20,qc 22 21 (fa 0 4),qc 23 21 (lo 22),qc 24 21 (.bin .gtr (.t 23) (qi 7)),Qq 25 21 24,Qm 26 25,qc 27 26 (fa 1 4),qc 28 26 (lo 27),qc 29 26 (.call (.f 129) [.t 28]),qc 30 26 (.not (.t 29)),Qq 31 26 30] [0,5,6,7,31] (.cond (.t 31) Za1 .skip))))) (qr [] [0,5,6,7])) (qr [Qu 32 .add 7 1,Qm 7 32] [0,5,6,7])))))) (qr [] [0]))) (qR [Qm 33 0,Qn 34 33,Qu 35 .leq 34 9,Qm 2 35] [2] .ret))
theorem c100:FB 100 []=some (r100,s100):=by kernel_rfl
def r103:RL:=[(4,none)]
def s103:SCode:=qR [Qb 2 25 0,Qb 3 25 1,Qf 4] [2,3] (qR [Qa 8 0 2,Qo 9 8,Qa 10 0 3,Qo 11 10,Qv 12 .eql 9 11,Qm 13 12,qb 14 13 (fa 3 2),qb 15 13 (lo 14),qb 16 13 (fa 3 3),qb 17 13 (lo 16),qb 18 13 (.bin .eql (.t 15) (.t 17)),Qp 19 13 18,Qm 20 19,qb 21 20 (fa 4 2),qb 22 20 (lo 21),qb 23 20 (fa 4 3),qb 24 20 (lo 23),qb 25 20 (.bin .eql (.t 22) (.t 24)),Qp 26 20 25,Qm 27 26,qb 28 27 (fa 20 2),qb 29 27 (lo 28),qb 30 27 (fa 20 3),qb 31 27 (lo 30),qb 32 27 (.bin .eql (.t 29) (.t 31)),Qp 33 27 32,Qm 34 33,qb 35 34 (fa 21 2),qb 36 34 (lo 35),qb 37 34 (fa 21 3),qb 38 34 (lo 37),qb 39 34 (.bin .eql (.t 36) (.t 38)),Qp 40 34 39,Qm 41 40,qb 42 41 (fa 22 2),qb 43 41 (lo 42),qb 44 41 (fa 22 3),qb 45 41 (lo 44),qb 46 41 (.bin .eql (.t 43) (.t 45)),Qp 47 41 46,Qm 5 47] [2,3,5] (qR [Qa 48 15 2,Qo 49 48,Qa 50 15 3,Qo 51 50,Qv 52 .eql 49 51,Qm 53 52,qb 54 53 (fa 16 2),qb 55 53 (lo 54),qb 56 53 (fa 16 3),qb 57 53 (lo 56),qb 58 53 (.bin .eql (.t 55) (.t 57)),Qp 59 53 58,Qm 60 59,qb 61 60 (fa 23 2),qb 62 60 (lo 61),qb 63 60 (fa 23 3),qb 64 60 (lo 63),qb 65 60 (.bin .eql (.t 62) (.t 64)),Qp 66 60 65,Qm 67 66,qb 68 67 (fa 17 2),qb 69 67 (lm 3 68),qb 70 67 (fa 17 3),qb 71 67 (lm 3 70),qb 72 67 (.eqs false [1,1,2] (.t 69) (.t 71)),Qp 73 67 72,Qm 6 73] [2,3,5,6] (qR [Qa 74 1 2,Qo 75 74,Qa 76 1 3,Qo 77 76,Q2 78 191 75 77,Qm 79 78,qb 80 79 (fa 2 2),qb 81 79 (lo 80),qb 82 79 (fa 2 3),qb 83 79 (lo 82),qb 84 79 (.call (.f 191) [.t 81,.t 83]),Qp 85 79 84,Qm 86 85,qb 87 86 (fa 13 2),qb 88 86 (lo 87),qb 89 86 (fa 13 3),qb 90 86 (lo 89),qb 91 86 (.call (.f 192) [.t 88,.t 90]),Qp 92 86 91,Qm 93 92,qb 94 93 (fa 14 2),qb 95 93 (lo 94),qb 96 93 (fa 14 3),qb 97 93 (lo 96),qb 98 93 (.call (.f 192) [.t 95,.t 97]),Qp 99 93 98,Qm 7 99] [2,3,5,6,7] (qR [Qm 100 5,Qm 101 100,Bm 102 101 6,Qp 103 101 102,Qm 104 103,Bm 105 104 7,Qp 106 104 105,Qm 107 106,qb 108 107 (fa 5 2),qb 109 107 (lm 8 108),qb 110 107 (fa 5 3),qb 111 107 (lm 8 110),qb 112 107 (.call (.f 193) [.t 109,.t 111]),Qp 113 107 112,Qm 114 113,qb 115 114 (fa 24 2),qb 116 114 (lo 115),qb 117 114 (fa 24 3),qb 118 114 (lo 117),qb 119 114 (.call (.f 194) [.t 116,.t 118,.f 103]),Qp 120 114 119,Qm 4 120] [4] .ret))))
theorem c103:FB 103 [2000002,2000003]=some (r103,s103):=by kernel_rfl
def r142:RL:=[(2,none)]
def s142:SCode:=qR [Qi 2 0] [0] (qR [Qi 3 0] [0,3] (qs (qs (.block 0 (.loop (qs (qR [Qm 4 3,Qm 5 0,QN 6 5,Qv 7 .lss 4 6,Qm 8 7,Bm 9 8 0,Bm 10 8 3,qb 11 8 (.index (.t 9) (.t 10)),qb 12 8 (.bin .geq (.t 11) (.c (.int .u8 48))),Qp 13 8 12,Qm 14 13,Bm 15 14 0,Bm 16 14 3,qb 17 14 (.index (.t 15) (.t 16)),qb 18 14 (.bin .leq (.t 17) (.c (.int .u8 57))),Qp 19 14 18] [0,3,19] (qX 19)) (qs (.block 1 (qr [Qm 20 3,Qu 21 .add 20 1,Qm 3 21] [0,3])) (qr [] [0,3]))))) (qr [] [3])) (qR [Qm 22 3,Qm 2 22] [2] .ret)))
theorem c142:FB 142 []=some (r142,s142):=by kernel_rfl
def r148:RL:=[(2,none)]
def s148:SCode:=qR [Qb 1 8 0,Qi 2 0] [1] (qR [qa 3 (.alloc 3 [.int .i64 0]),⟨none,none,.store 1 (.t 3) (qi 0)⟩] [1,3] (qR [Ql 4 8 1,qa 5 (.mkfun (.func 238) [] [.t 3]),Q2 6 237 4 5] [3] (qR [Qo 7 3,Qm 2 7] [2] .ret)))
theorem c148:FB 148 [2000001]=some (r148,s148):=by kernel_rfl
def r166:RL:=[(2,none)]
def s166:SCode:=qR Za10 [1] (qR [Qa 3 3 1,Qo 4 3,Q1 5 167 4,Qm 6 5,qb 7 6 (fa 5 1),qb 8 6 (lm 8 7),qb 9 6 (.call (.f 168) [.t 8]),Qp 10 6 9,Qm 2 10] [2] .ret)
theorem c166:FB 166 [2000001]=some (r166,s166):=by kernel_rfl
def r169:RL:=[(2,some (true,25))]
def s169:SCode:=qR Za4 [2] (qR [qa 3 (.build zItm []),QS 25 2 3] [2] .ret)
theorem c169:FB 169 [2000001]=some (r169,s169):=by kernel_rfl
def r172:RL:=[(2,none)]
def s172:SCode:=qR Za10 [1] (qR [Qa 3 13 1,Qo 4 3,qa 5 (.call (.f 173) [.t 4,qi 1]),Qm 6 5,qb 7 6 (fa 14 1),qb 8 6 (lo 7),qb 9 6 (.call (.f 173) [.t 8,qi 0]),Qp 10 6 9,Qm 11 10,qb 12 11 (lm 25 1),qb 13 11 (.call (.f 174) [.t 12]),Qp 14 11 13,Qm 2 14] [2] .ret)
theorem c172:FB 172 [2000001]=some (r172,s172):=by kernel_rfl
def r175:RL:=[(2,some (true,25))]
def s175:SCode:=qR Za4 [1,2] Za7
theorem c175:FB 175 [2000001]=some (r175,s175):=by kernel_rfl
def r178:RL:=[(2,none)]
def s178:SCode:=qR Za10 [1] (qR [Qa 3 14 1,Qo 4 3,qa 5 (.call (.f 173) [.t 4,qi 0]),Qm 2 5] [2] .ret)
theorem c178:FB 178 [2000001]=some (r178,s178):=by kernel_rfl
def r181:RL:=[(2,some (true,25))]
def s181:SCode:=qR Za4 [1,2] (qR [Qa 3 2 1,Qo 4 3,Qa 5 3 1,Qo 6 5,qa 7 (.build zItm [(2,(1,.t 4)),(3,(1,.t 6))]),QS 25 2 7] [2] .ret)
theorem c181:FB 181 [2000001]=some (r181,s181):=by kernel_rfl
def r184:RL:=[(2,none)]
def s184:SCode:=qR Za10 [1] (qR [Qa 3 23 1,Qo 4 3,Q1 5 101 4,Qm 6 5,qb 7 6 (fa 22 1),qb 8 6 (lo 7),qb 9 6 (.call (.f 185) [.t 8,qi 0,qi 1048576]),Qp 10 6 9,Qm 2 10] [2] .ret)
theorem c184:FB 184 [2000001]=some (r184,s184):=by kernel_rfl
def r187:RL:=[(2,none)]
def s187:SCode:=qR Za10 [1] (qR [Ql 3 25 1,qa 4 (.call (.f 188) [.t 3,qi 0]),Qm 5 4,qb 6 5 (fa 24 1),qb 7 5 (lo 6),qb 8 5 (.len (.t 7)),qb 9 5 (.bin .eql (.t 8) (qi 1)),Qp 10 5 9,Qm 11 10,qb 12 11 (fa 24 1),qb 13 11 (lo 12),qb 14 11 (.indexA 25 (.t 13) (qi 0)),qb 15 11 (fa 0 14),qb 16 11 (lo 15),qb 17 11 (.call (.f 48) [.t 16]),Qp 18 11 17,Qm 19 18,qb 20 19 (fa 24 1),qb 21 19 (lo 20),qb 22 19 (.indexA 25 (.t 21) (qi 0)),qb 23 19 (lm 25 22),qb 24 19 (.call (.f 47) [.t 23]),Qp 25 19 24,Qm 2 25] [2] .ret)
theorem c187:FB 187 [2000001]=some (r187,s187):=by kernel_rfl
def r193:RL:=[(4,none)]
def s193:SCode:=qR [Qb 2 8 0,Qb 3 8 1,Qf 4] [2,3] (qR [Qa 5 0 2,Ql 6 3 5,Qa 7 0 3,Ql 8 3 7,qa 9 (.eqs false [1,1,1] (.t 6) (.t 8)),Qm 10 9,qb 11 10 (fa 3 2),qb 12 10 (lo 11),qb 13 10 (fa 3 3),qb 14 10 (lo 13),qb 15 10 (.bin .eql (.t 12) (.t 14)),Qp 16 10 15,Qm 17 16,qb 18 17 (fa 4 2),qb 19 17 (lo 18),qb 20 17 (fa 4 3),qb 21 17 (lo 20),qb 22 17 (.bin .eql (.t 19) (.t 21)),Qp 23 17 22,Qm 24 23,qb 25 24 (fa 5 2),qb 26 24 (lo 25),qb 27 24 (fa 5 3),qb 28 24 (lo 27),qb 29 24 (.call (.f 257) [.t 26,.t 28]),Qp 30 24 29,Qm 31 30,qb 32 31 (fa 6 2),qb 33 31 (lo 32),qb 34 31 (fa 6 3),qb 35 31 (lo 34),qb 36 31 (.call (.f 257) [.t 33,.t 35]),Qp 37 31 36,Qm 38 37,qb 39 38 (fa 7 2),qb 40 38 (lo 39),qb 41 38 (fa 7 3),qb 42 38 (lo 41),qb 43 38 (.call (.f 258) [.t 40,.t 42,.f 193]),Qp 44 38 43,Qm 4 44] [4] .ret)
theorem c193:FB 193 [2000002,2000003]=some (r193,s193):=by kernel_rfl
def r217:RL:=[(2,none),(3,none)]
def s217:SCode:=qR [qa 2 (.mov (.c (.str []))),qa 3 (.mov (.c (.str [])))] [0] (qR [Qm 5 0,qa 6 (.call (.f 267) [.t 5,.f 268]),Qm 4 6] [0,4] (qs (qR [Qm 7 4,Qu 8 .lss 7 0] [0,4,8] (.cond (.t 8) (qR [Qm 9 0,Qm 2 9,qa 3 (.mov (.c (.str [])))] [2,3] .ret) .skip)) (qs (.drawL [Qm 10 0,Qm 11 4,qa 12 (.sliceS (.t 10) none (some (.t 11))),Qm 13 0,Qm 14 4,qa 15 (.sliceS (.t 13) (some (.t 14)) none),Qm 2 12,Qm 3 15] [2,3]) .ret)))
theorem c217:FB 217 []=some (r217,s217):=by kernel_rfl
def r223:RL:=[(2,none)]
def s223:SCode:=qR [Qf 2] [0] (qR [Qm 3 0,Qn 4 3,Qu 5 .leq 4 256,Qm 6 5,Bm 7 6 0,qb 8 6 (.call (.f 269) [.t 7,.f 270]),qb 9 6 (.not (.t 8)),Qp 10 6 9,Qm 2 10] [2] .ret)
theorem c223:FB 223 []=some (r223,s223):=by kernel_rfl
def r238:RL:=[(3,none)]
def s238:SCode:=qR [Qb 2 8 0,Qf 3] [1] (qR [Qo 4 1,Qu 5 .add 4 1,QS 1 1 5] [] (qR [Qt 3] [3] .ret))
theorem c238:FB 238 [2000002]=some (r238,s238):=by kernel_rfl
def r265:RL:=[(2,none)]
def s265:SCode:=qR Za11 [1] (qR [Ql 8 8 1,Q1 9 149 8,Qm 3 9] [1,3] (qR [qa 10 (.raw (.makeMap 267 none)),Qm 4 10] [1,3,4] (qs (qR [Qm 11 3,Qn 12 11,Qi 13 0] [1,3,4,11,12,13] (qs (.block 0 (.loop (qR [Qv 14 .lss 13 12] [1,3,4,11,12,13,14] (qs (qX 14) (qs (qs (.block 1 (qR [Qx 15 3 11 13,Ql 16 3 15,qa 6 (.alloc 23 Za2),QS 3 6 16] [1,3,4,6,11,12,13] (qr [Qm 17 4,Ql 18 3 6,⟨none,none,.raw (.mapUpdate 267 (.tmp 17) (.tmp 18) (.const (.bool true)))⟩] [1,3,4,11,12,13]))) (qr [] [1,3,4,11,12,13])) (qr [Qu 19 .add 13 1,Qm 13 19] [1,3,4,11,12,13])))))) (qr [] [1,3,4]))) (qR [Qm 20 4,qa 21 (.build Za2 []),qa 22 (.raw (.lookup 267 (.tmp 20) (.tmp 21) false)),Qm 7 22] [1,3,4,7] (qs (.drawL [Qm 23 7,Qm 24 23,Bm 25 24 4,qb 26 24 (.raw (.call (.mk (.builtin .len) #[.tmp 25] #[267]))),qb 27 24 (.bin .eql (.t 26) (qi 1)),Qp 28 24 27,Qm 29 28,Ym 30 29 4,Ym 32 29 3,qc 33 29 (.len (.t 32)),qc 31 29 (.raw (.call (.mk (.builtin .len) #[.tmp 30] #[267]))),qc 34 29 (.bin .eql (.t 31) (.t 33)),Ym 35 29 34,qb 36 35 (fa 3 1),qb 37 35 (.loadF false 1 (.t 36)),qb 38 35 (.bin .eql (.t 37) (qi 0)),qb 39 35 (fa 0 1),qb 40 35 (.loadF true 3 (.t 39)),qb 41 35 (.build Za2 []),qb 42 35 (.eqs false [1,1,1] (.t 40) (.t 41)),qb 43 35 (.eqb false (.t 38) (.t 42)),qc 44 29 (.pick (.t 35) (.t 43) qf),Qq 45 29 44,Qm 2 45] [2]) .ret)))))
theorem c265:FB 265 [2000001]=some (r265,s265):=by kernel_rfl
def r268:RL:=[(2,none)]
def s268:SCode:=qR [Qf 2] [0] (qR [Qm 3 0,qa 4 (.bin .lss (.t 3) (.c (.int .i32 48))),Qm 5 4,Ym 6 5 0,qc 7 5 (.bin .gtr (.t 6) (.c (.int .i32 57))),Qq 8 5 7,Qm 2 8] [2] .ret)
theorem c268:FB 268 []=some (r268,s268):=by kernel_rfl
def r271:RL:=[(2,none)]
def s271:SCode:=qR [Qf 2] [0] (qR [qa 3 (.mov (.f 296))] [0,3] (qR [Qm 4 0,qa 5 (.bin .neq (.t 4) (.c (.str []))),Qm 6 5,Bm 7 6 0,qb 8 6 (.lenS (.t 7)),qb 9 6 (.bin .leq (.t 8) (qi 24)),Qp 10 6 9,Qm 11 10,Bm 12 11 0,qb 13 11 (.raw (.convert 9 107 (.tmp 12))),Bm 14 11 3,qb 15 11 (.call (.f 297) [.t 13,.t 14]),qb 16 11 (.not (.t 15)),Qp 17 11 16,Qm 2 17] [2] .ret))
theorem c271:FB 271 []=some (r271,s271):=by kernel_rfl
def r280:RL:=[(2,none)]
def s280:SCode:=qR Za11 [1] (qR [qa 3 (.mov (.f 281))] [1,3] (qR [Qa 4 0 1,Ql 5 3 4,qa 6 (.build Za2 []),qa 7 (.eqs false [1,1,1] (.t 5) (.t 6)),Qm 8 7,qb 9 8 (fa 5 1),qb 10 8 (lo 9),Bm 11 8 3,qb 12 8 (.call (.f 225) [.t 10,.t 11]),qb 13 8 (.not (.t 12)),Qp 14 8 13,Qm 15 14,qb 16 15 (fa 6 1),qb 17 15 (lo 16),Bm 18 15 3,qb 19 15 (.call (.f 225) [.t 17,.t 18]),qb 20 15 (.not (.t 19)),Qp 21 15 20,Qm 2 21] [2] .ret))
theorem c280:FB 280 [2000001]=some (r280,s280):=by kernel_rfl
def r292:RL:=[(2,none)]
def s292:SCode:=qR [qa 2 (.mov (.c (.str [])))] [0] (qs (qR [Qm 3 0,Qu 4 .lss 3 0,Qm 5 4,Ym 6 5 0,qc 7 5 (.bin .geq (.t 6) (qi 8)),Qq 8 5 7] [0,8] (.cond (.t 8) (qR [qa 2 (.mov (.c (.str [])))] [2] .ret) .skip)) (qR [Qm 9 0,qa 10 (.indexP 8 1 (.g 3) (.t 9)),Qo 11 10,Qm 2 11] [2] .ret))
theorem c292:FB 292 []=some (r292,s292):=by kernel_rfl
def r295:RL:=[(4,none)]
def s295:SCode:=qR [Qi 4 0] [0,1] Za0
theorem c295:FB 295 []=some (r295,s295):=by kernel_rfl
def r307:RL:=[(2,some (true,8))]
def s307:SCode:=qR [QB 1 27 8 0,QU 2 27] [1,2] (qR [Ql 7 8 1,Q1 8 84 7,QS 8 1 8] [1,2] (qR [qa 9 (.build Za2 []),Qa 10 0 1,QS 3 10 9] [1,2] (qs (qR [Qa 11 5 1,Qo 12 11,Qa 13 6 1,Qo 14 13,qa 15 (.buildS 24 1 2 [.nil,.nil] [(0,.t 12),(1,.t 14)]),Qn 16 15,Qi 17 0] [1,2,15,16,17] (qs (.block 0 (.loop (qR [Qv 18 .lss 17 16] [1,2,15,16,17,18] (qs (qX 18) (qs (qs (.block 1 (qR [Qx 19 1 15 17,Qo 20 19,Qm 4 20] [1,2,4,15,16,17] (qR [Qm 21 4,Qn 22 21,Qi 23 0] [1,2,4,15,16,17,22,23] (qs (.block 2 (.loop (qR [Qv 24 .lss 23 22] [1,2,4,15,16,17,22,23,24] (qs (.cond (.t 24) .skip (.exit 2)) (qs (qs (.block 3 (qR [Qm 25 23,Qm 5 25] [1,2,4,5,15,16,17,22,23] (qr [Qm 26 4,Qm 27 5,qa 28 (.build Za2 []),Qx 29 4 26 27,Qa 30 1 29,QS 3 30 28] [1,2,4,15,16,17,22,23]))) (qr [] [1,2,4,15,16,17,22,23])) (qr [Qu 31 .add 23 1,Qm 23 31] [1,2,4,15,16,17,22,23])))))) Za16)))) Za16) (qr [Qu 32 .add 17 1,Qm 17 32] [1,2,15,16,17])))))) (qr [] [1,2]))) (qs (qR [Qa 33 7 1,Qo 34 33,Qn 35 34,Qi 36 0] [1,2,35,36] (qs (.block 4 (.loop (qR [Qv 37 .lss 36 35] [1,2,35,36,37] (qs (.cond (.t 37) .skip (.exit 4)) (qs (qs (.block 5 (qR [Qm 38 36,Qm 6 38] [1,2,6,35,36] (.drawT (.step (Qa 39 7 1) (.step (Qm 41 6) (.step (Qa 42 7 1) (.step (Qm 44 6) (.both (.step (Qo 40 39) (.step (Qo 43 42) (.step (Qx 45 8 43 44) (.step (Ql 46 8 45) Za15)))) (.step (Qo 43 42) (.step (Qx 45 8 43 44) (.both (.step (Qo 40 39) (.step (Ql 46 8 45) Za15)) (.step (Ql 46 8 45) (.both (.step (Qo 40 39) Za15) (.step (Q1 47 307 46) (.step (Qo 40 39) Za6)))))))))))) [1,2,35,36]))) (qr [] [1,2,35,36])) (qr [Qu 49 .add 36 1,Qm 36 49] [1,2,35,36])))))) (qr [] [1,2]))) (qR [Ql 50 8 1,QS 8 2 50] [2] .ret)))))
theorem c307:FB 307 []=some (r307,s307):=by kernel_rfl
def r316:RL:=[(2,none)]
def s316:SCode:=qR [Qf 2] [0] (qs (qR [Qm 4 0,Qn 5 4,Qu 6 .gtr 5 256] [0,6] (.cond (.t 6) Za1 .skip)) (qs (qR [Qi 3 0] [0,3] (qs (.block 0 (.loop (qs (qR [Qm 7 3,Qm 8 0,Qn 9 8,Qv 10 .lss 7 9] [0,3,10] (qX 10)) (qs (qs (.block 1 (qR [Qm 13 0,Qm 14 3,Qx 15 1 13 14,Qo 16 15,Q1 17 81 16,Qr 18 17] [0,3,18] (.cond (.t 18) Za1 .skip))) (qr [] [0,3])) (qr [Qm 11 3,Qu 12 .add 11 1,Qm 3 12] [0,3]))))) (qr [] []))) Za8))
theorem c316:FB 316 []=some (r316,s316):=by kernel_rfl
def r319:RL:=[(4,none)]
def s319:SCode:=qR [QB 2 27 8 0,Qf 4] [1,2] (qR [qa 5 (.build Za2 []),Qa 6 0 2,QS 3 6 5,Qa 7 7 2,⟨none,none,.store 1 (.t 7) (.c .nil)⟩] [1,2] (qR [Qm 8 1,Qu 9 .geq 8 0,Qm 10 9,Bm 11 10 1,qb 12 10 (.bin .leq (.t 11) (qi 8)),Qp 13 10 12,Qm 14 13,qb 15 14 (lm 8 2),qb 16 14 (.call (.f 307) [.t 15]),qb 17 14 (.call (.f 200) [.t 16]),Qp 18 14 17,Qm 4 18] [4] .ret))
theorem c319:FB 319 []=some (r319,s319):=by kernel_rfl
end Go.Av
