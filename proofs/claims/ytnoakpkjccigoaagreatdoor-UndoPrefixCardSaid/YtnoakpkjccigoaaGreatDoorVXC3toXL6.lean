/-
  THE TRANSLATED CODE. Printed by mkcode2.py.
-/
import Derived.Test.YtnoakpkjccigoaaGreatDoorVXOpenGtoXCS
import Derived.Test.YtnoakpkjccigoaaGreatDoorVXAv24toXAv26
import Derived.Test.YtnoakpkjccigoaaGreatDoorProg
import Derived.Test.YtnoakpkjccigoaaGreatDoorVXC1toXC2
namespace Go.Av
open Go List
set_option linter.unusedSimpArgs false
set_option linter.unusedVariables false
abbrev Zb13:SCode:=qr [Qu 18 .add 8 1,Qm 8 18] [0,1,7,8]
abbrev Zb12:SCode:=qr [Qu 25 .add 13 1,Qm 13 25] [0,1,12,13]
abbrev Zb11:SOper:=qa 12 (.buildS 9 1 1 [.str []] [(0,.t 11)])
abbrev Zb10:DT:=.step (QS 2 3 11) (.step (Qm 4 12) .done)
abbrev Zb9:SOper:=qa 10 (.raw (.lookup 144 (.tmp 7) (.tmp 9) true))
abbrev Zb8:SCode:=.cond (.t 16) (qR [Qm 17 5,Qm 4 17] [4] .ret) .skip
abbrev Zb7:SCode:=qR [Qf 4] [4] .ret
abbrev Zb6:DT:=.step (Qw 13 9 1 16 8 12) (.step (QS 1 2 13) .done)
abbrev Zb5:List AV:=[.int .i64 0,.int .i64 0,.int .i64 0]
abbrev Zb4:SOper:=qa 3 (.alloc 142 [.sc .nilFunc,.sc .nilFunc])
abbrev Zb3:SCode:=qR [Qm 6 0,Qn 7 6,Qm 8 1,Qn 9 8,Qv 10 .neq 7 9] [0,1,10] (.cond (.t 10) Zb7 .skip)
abbrev Zb2:DT:=.step Zb11 Zb6
abbrev Zb1:SCode:=qR [Qf 2] [2] .ret
abbrev Zb0:DT:=.step Zb9 (.step (Qm 6 10) (.step (Qe 11 0 6) (.step (Qe 12 1 6) Zb10)))
def r47:RL:=[(2,none)]
def s47:SCode:=qR [Qb 1 25 0,Qf 2] [1] (qs (.drawT (.step (Qa 8 0 1) (.step (qa 9 (.loadF false 1 (.t 8))) (.both (.step (Q0 7 99) (.both (.step Zb9 (.step (Qm 6 10) (.step (Qe 11 0 6) (.step (Qe 12 1 6) (.step Zb4 Zb10))))) (.step Zb4 Zb0))) (.step Zb4 (.step (Q0 7 99) Zb0))))) [1,3,4]) (qs (qR [Qm 13 4,Qr 14 13] [1,3,14] (.cond (.t 14) Zb1 .skip)) (qR [Qa 15 0 3,Qo 16 15,Ql 17 25 1,qa 18 (.call (.t 16) [.t 17]),qa 5 (.alloc 52 zItm),QS 25 5 18] [1,3,5] (qR [Qa 19 0 1,Qo 20 19,Qa 21 0 5,QS 1 21 20] [1,3,5] (qs (qR [Qa 22 0 1,Qo 23 22,Q1 24 48 23] [1,3,5,24] (.cond (.t 24) (qs (.drawL [Qa 25 1 1,qa 26 (.loadF false 1 (.t 25)),Qa 27 16 1,qa 28 (.loadF false 1 (.t 27)),Qa 29 17 1,Qs 30 3 29,Qa 31 1 5,QS 1 31 26,Qa 32 16 5,QS 1 32 28,Qa 33 17 5,QS 3 33 30] [1,3,5]) (qR [Qa 34 1 1,Qo 35 34,Q1 36 100 35,Qr 37 36,Qm 38 37,qc 39 38 (fa 16 1),qc 40 38 (lo 39),qc 41 38 (.bin .neq (.t 40) (.c (.str []))),Ym 42 38 41,qb 43 42 (fa 16 1),qb 44 42 (lo 43),qb 45 42 (.call (.f 101) [.t 44]),qb 46 42 (.not (.t 45)),qc 47 38 (.pick (.t 42) (.t 46) qf),Qq 48 38 47,Qm 49 48,qc 50 49 (fa 17 1),qc 51 49 (lm 3 50),qc 52 49 (.call (.f 102) [.t 51]),qc 53 49 (.not (.t 52)),Qq 54 49 53] [1,3,5,54] (.cond (.t 54) Zb1 .skip))) .skip)) (qR [Ql 55 25 1,Ql 56 25 5,Q2 57 103 55 56,Qm 58 57,qb 59 58 (fa 1 3),qb 60 58 (lo 59),qb 61 58 (lm 25 1),qb 62 58 (.call (.t 60) [.t 61]),Qp 63 58 62,Qm 2 63] [2] .ret))))))
theorem c47:FB 47 [2000001]=some (r47,s47):=by kernel_rfl
def r50:RL:=[(2,none)]
def s50:SCode:=qR [Qf 2] [0] (qs (qR [Qi 3 0] [0,3] (qs (.block 0 (.loop (qs (qR [Qm 4 3,Qm 5 0,Qn 6 5,Qv 7 .lss 4 6] [0,3,7] (qX 7)) (qs (qs (.block 1 (qR [Qm 10 0,Qm 11 3,Qx 12 4 10 11,Qa 13 0 12,Qo 14 13,QN 15 14,Qu 16 .gtr 15 100] [0,3,16] (.cond (.t 16) Zb1 .skip))) (qr [] [0,3])) (qr [Qm 8 3,Qu 9 .add 8 1,Qm 3 9] [0,3]))))) (qr [] [0]))) (qR [Qm 17 0,Qn 18 17,Qu 19 .leq 18 300,Qm 2 19] [2] .ret))
theorem c50:FB 50 []=some (r50,s50):=by kernel_rfl
def r56:RL:=[(2,none)]
def s56:SCode:=qR [Qb 1 8 0,Qz 2] [1] (qR [Qa 5 0 1,Ql 6 3 5,qa 7 (.buildS 23 3 1 Zb5 [(0,.t 6)]),Qm 3 7] [1,3] (qs (qR [Qi 4 0] [1,3,4] (qs (.block 0 (.loop (qs (qR [Qm 8 4,Qa 9 7 1,Qo 10 9,Qn 11 10,Qv 12 .lss 8 11] [1,3,4,12] (qX 12)) (qs (qs (.block 1 (qr [Qm 15 3,Qa 16 7 1,Qo 17 16,Qm 18 4,Qx 19 8 17 18,Ql 20 8 19,Q1 21 56 20,Qw 22 23 3 24 15 21,Qm 3 22] [1,3,4])) (qr [] [1,3,4])) (qr [Qm 13 4,Qu 14 .add 13 1,Qm 4 14] [1,3,4]))))) (qr [] [3]))) (qR [Qm 23 3,Qm 2 23] [2] .ret)))
theorem c56:FB 56 [2000001]=some (r56,s56):=by kernel_rfl
def r74:RL:=[(4,none)]
def s74:SCode:=qR [Qf 4] [0,1] (qs (qR [Qm 5 0] [1,5] (qs (.block 0 (qR [Qu 7 .eql 5 0,Qm 6 7] [1,5,6] (.cond (.t 6) (qR [Qm 8 1,Qu 9 .eql 8 1,Qm 10 9,Ym 11 10 1,qc 12 10 (.bin .eql (.t 11) (qi 2)),Qq 13 10 12,Qm 4 13] [4] .ret) (qR [Qu 15 .eql 5 1,Qm 14 15] [1,5,14] (.cond (.t 14) (qR [Qm 16 1,Qu 17 .eql 16 2,Qm 4 17] [4] .ret) (qs (qR [Qu 19 .eql 5 2,Qm 18 19] [1,5,18] (.cond (.t 18) .skip (qr [Qu 20 .eql 5 3,Qm 18 20] [1,5,18]))) (.cond (.t 18) (qR [Qm 21 1,Qu 22 .eql 21 3,Qm 23 22,Ym 24 23 1,qc 25 23 (.bin .eql (.t 24) (qi 4)),Qq 26 23 25,Qm 27 26,Ym 28 27 1,qc 29 27 (.bin .eql (.t 28) (qi 7)),Qq 30 27 29,Qm 4 30] [4] .ret) (qR [Qu 32 .eql 5 4,Qm 31 32] [1,5,31] (.cond (.t 31) (qR [Qm 33 1,Qu 34 .eql 33 5,Qm 4 34] [4] .ret) (qR [Qu 36 .eql 5 5,Qm 35 36] [1,35] (.cond (.t 35) (qR [Qm 37 1,Qu 38 .eql 37 6,Qm 4 38] [4] .ret) .skip))))))))))) (qr [] []))) Zb7)
theorem c74:FB 74 []=some (r74,s74):=by kernel_rfl
def r77:RL:=[(2,none)]
def s77:SCode:=qR [Qb 1 8 0,Qi 2 0] [1] (qR [Qi 3 0] [1,3] (qs (qR [Qi 4 0] [1,3,4] (qs (.block 0 (.loop (qs (qR [Qm 5 4,Qa 6 7 1,Qo 7 6,Qn 8 7,Qv 9 .lss 5 8] [1,3,4,9] (qX 9)) (qs (qs (.block 1 (qr [Qm 12 3,Qa 13 7 1,Qo 14 13,Qm 15 4,Qx 16 8 14 15,Ql 17 8 16,Q1 18 77 17,qa 19 (.bin .add (qi 1) (.t 18)),qa 20 (.raw (.call (.mk (.builtin .max) #[.tmp 12,.tmp 19] #[3,3]))),Qm 3 20] [1,3,4])) (qr [] [1,3,4])) (qr [Qm 10 4,Qu 11 .add 10 1,Qm 4 11] [1,3,4]))))) (qr [] [3]))) (qR [Qm 21 3,Qm 2 21] [2] .ret)))
theorem c77:FB 77 [2000001]=some (r77,s77):=by kernel_rfl
def r86:RL:=[(2,none)]
def s86:SCode:=qR [Qz 2] [0] (qs (qR [Qm 3 0,qa 4 (.eqnil 0 false (.t 3))] [0,4] (.cond (.t 4) (qR [Qz 2] [2] .ret) .skip)) (qR [qa 5 (.raw (.buildSlice 24 0 #[])),Qm 6 0,qa 7 (.raw (.call (.mk (.builtin .append) #[.tmp 5,.tmp 6] #[24,24]))),Qm 2 7] [2] .ret))
theorem c86:FB 86 [3000005,3000007]=some (r86,s86):=by kernel_rfl
def r101:RL:=[(2,none)]
def s101:SCode:=qR [Qf 2] [0] (qs (qR [Qm 3 0,QN 4 3,Qu 5 .lss 4 1,Qm 6 5,Ym 7 6 0,qc 8 6 (.lenS (.t 7)),qc 9 6 (.bin .gtr (.t 8) (qi 16)),Qq 10 6 9,Qm 11 10,Ym 12 11 0,qc 13 11 (.index (.t 12) (qi 0)),qc 14 11 (.bin .lss (.t 13) (.c (.int .u8 97))),Qq 15 11 14,Qm 16 15,Ym 17 16 0,qc 18 16 (.index (.t 17) (qi 0)),qc 19 16 (.bin .gtr (.t 18) (.c (.int .u8 122))),Qq 20 16 19] [0,20] (.cond (.t 20) Zb1 .skip)) (qR [Qm 21 0,qa 22 (.call (.f 190) [.t 21,.c (.str [97,98,99,100,101,102,103,104,105,106,107,108,109,110,111,112,113,114,115,116,117,118,119,120,121,122,48,49,50,51,52,53,54,55,56,57,45])]),qa 23 (.bin .eql (.t 22) (.c (.str []))),Qm 2 23] [2] .ret))
theorem c101:FB 101 []=some (r101,s101):=by kernel_rfl
def r107:RL:=[(2,none)]
def s107:SCode:=qR [Qb 1 8 0,Qf 2] [1] (qR [Ql 3 8 1,Q1 4 197 3,Qm 5 4,qb 6 5 (lm 8 1),qb 7 5 (.call (.f 77) [.t 6]),qb 8 5 (.bin .leq (.t 7) (qi 8)),Qp 9 5 8,Qm 10 9,qb 11 10 (lm 8 1),qb 12 10 (.call (.f 138) [.t 11]),qb 13 10 (.bin .leq (.t 12) (qi 1024)),Qp 14 10 13,Qm 15 14,qb 16 15 (lm 8 1),qb 17 15 (.call (.f 198) [.t 16]),Qp 18 15 17,Qm 2 18] [2] .ret)
theorem c107:FB 107 [2000001]=some (r107,s107):=by kernel_rfl
def r122:RL:=[(4,none)]
def s122:SCode:=qR [Qf 4] [0,1] (qR [Qm 5 0,Qu 6 .geq 5 0,Qm 7 6,Bm 8 7 0,qb 9 7 (.bin .lss (.t 8) (qi 8)),Qp 10 7 9,Qm 11 10,Bm 12 11 0,qb 13 11 (.indexP 8 1 (.g 1) (.t 12)),qb 14 11 (lo 13),Bm 15 11 1,qb 16 11 (.call (.f 213) [.t 14,.t 15]),Qp 17 11 16,Qm 4 17] [4] .ret)
theorem c122:FB 122 []=some (r122,s122):=by kernel_rfl
def r125:RL:=[(2,none)]
def s125:SCode:=qR [Qb 1 8 0,Qi 2 0] [1] (qR [Qi 3 0] [1,3] (qs (qR [Qa 6 7 1,Qo 7 6,Qn 8 7,Qi 9 0] [3,7,8,9] (qs (.block 0 (.loop (qR [Qv 10 .lss 9 8] [3,7,8,9,10] (qs (qX 10) (qs (qs (.block 1 (qR [Qx 11 8 7 9,Ql 12 8 11,QU 5 27,QS 8 5 12] [3,5,7,8,9] (qr [Qm 13 3,Ql 14 8 5,Q1 15 125 14,qa 16 (.bin .add (qi 1) (.t 15)),qa 17 (.raw (.call (.mk (.builtin .max) #[.tmp 13,.tmp 16] #[3,3]))),Qm 3 17] [3,7,8,9]))) (qr [] [3,7,8,9])) (qr [Qu 18 .add 9 1,Qm 9 18] [3,7,8,9])))))) (qr [] [3]))) (qR [Qm 19 3,Qm 2 19] [2] .ret)))
theorem c125:FB 125 [2000001]=some (r125,s125):=by kernel_rfl
def r149:RL:=[(2,none)]
def s149:SCode:=qR [Qb 1 8 0,Qz 2] [1] (qR [qa 3 (.alloc 115 [.nil])] [1,3] (qR [Ql 4 8 1,qa 5 (.mkfun (.func 239) [] [.t 3]),Q2 6 237 4 5] [3] (qR [Qo 7 3,Qm 2 7] [2] .ret)))
theorem c149:FB 149 [2000001]=some (r149,s149):=by kernel_rfl
def r167:RL:=[(2,none)]
def s167:SCode:=qR [Qf 2] [0] (qR [Qm 3 0,qa 4 (.call (.f 185) [.t 3,qi 0,qi 3]),Qm 2 4] [2] .ret)
theorem c167:FB 167 []=some (r167,s167):=by kernel_rfl
def r170:RL:=[(2,none)]
def s170:SCode:=qR [Qb 1 25 0,Qf 2] [] (qR [Qt 2] [2] .ret)
theorem c170:FB 170 [2000001]=some (r170,s170):=by kernel_rfl
def r173:RL:=[(4,none)]
def s173:SCode:=qR [Qf 4] [0,1] (qR [Qm 5 0,Q1 6 223 5,Qm 7 6,Bm 8 7 0,qb 9 7 (.len (.t 8)),Bm 10 7 1,qb 11 7 (.bin .geq (.t 9) (.t 10)),Qp 12 7 11,Qm 4 12] [4] .ret)
theorem c173:FB 173 []=some (r173,s173):=by kernel_rfl
def r176:RL:=[(2,none)]
def s176:SCode:=qR [Qb 1 25 0,Qf 2] [1] (qR [Qa 3 13 1,Qo 4 3,qa 5 (.call (.f 173) [.t 4,qi 0]),Qm 6 5,qb 7 6 (fa 14 1),qb 8 6 (lo 7),qb 9 6 (.call (.f 173) [.t 8,qi 1]),Qp 10 6 9,Qm 11 10,qb 12 11 (lm 25 1),qb 13 11 (.call (.f 174) [.t 12]),Qp 14 11 13,Qm 15 14,qb 16 15 (fa 13 1),qb 17 15 (lo 16),qb 18 15 (.len (.t 17)),qb 19 15 (.bin .gtr (.t 18) (qi 0)),Bm 20 15 19,qc 21 20 (fa 4 1),qc 22 20 (lo 21),qc 23 20 (.bin .eql (.t 22) (qi 0)),qb 24 15 (.pick (.t 20) qt (.t 23)),Qp 25 15 24,Qm 2 25] [2] .ret)
theorem c176:FB 176 [2000001]=some (r176,s176):=by kernel_rfl
def r179:RL:=[(2,some (true,25))]
def s179:SCode:=qR [Qb 1 25 0,qa 2 (.alloc 52 zItm)] [1,2] (qR [Qa 3 15 1,Qo 4 3,qa 5 (.build zItm [(15,(1,.t 4))]),QS 25 2 5] [2] .ret)
theorem c179:FB 179 [2000001]=some (r179,s179):=by kernel_rfl
def r182:RL:=[(2,none)]
def s182:SCode:=qR [Qb 1 25 0,Qf 2] [1] (qR [Qa 3 3 1,Qo 4 3,Q1 5 167 4,Qm 6 5,qb 7 6 (fa 2 1),qb 8 6 (lo 7),qb 9 6 (.call (.f 100) [.t 8]),Qp 10 6 9,Qm 2 10] [2] .ret)
theorem c182:FB 182 [2000001]=some (r182,s182):=by kernel_rfl
def r185:RL:=[(6,none)]
def s185:SCode:=qR [Qf 6] [0,1,2] (qR [Qm 7 0,Qm 8 1,Qv 9 .geq 7 8,Qm 10 9,Bm 11 10 0,Bm 12 10 2,qb 13 10 (.bin .leq (.t 11) (.t 12)),Qp 14 10 13,Qm 6 14] [6] .ret)
theorem c185:FB 185 []=some (r185,s185):=by kernel_rfl
def r188:RL:=[(4,none)]
def s188:SCode:=qR [Qb 2 25 0,Qf 4] [1,2] (qR [Qa 5 20 2,Qo 6 5,qa 7 (.call (.f 185) [.t 6,qi 1,qi 1048576]),Qm 8 7,qb 9 8 (fa 21 2),qb 10 8 (lo 9),Bm 11 8 1,qb 12 8 (.call (.f 185) [.t 10,.t 11,qi 31]),Qp 13 8 12,Qm 4 13] [4] .ret)
theorem c188:FB 188 [2000002]=some (r188,s188):=by kernel_rfl
def r191:RL:=[(4,none)]
def s191:SCode:=qR [Qf 4] [0,1] (qs Zb3 (qs (qR [Qm 11 0,Qn 12 11,Qi 13 0] [0,1,12,13] (qs (.block 0 (.loop (qR [Qv 14 .lss 13 12] [0,1,12,13,14] (qs (qX 14) (qs (qs (.block 1 (qR [Qm 15 13,Qm 5 15] [0,1,5,12,13] (qs (.draw [Qm 16 0,Qm 17 5,Qx 18 2 16 17,Ql 19 2 18,Qm 20 1,Qm 21 5,Qx 22 2 20 21,Ql 23 2 22,qa 24 (.eqs true [1,2] (.t 19) (.t 23))] [0,1,12,13,24]) (.cond (.t 24) Zb7 .skip)))) (qr [] [0,1,12,13])) Zb12))))) (qr [] []))) (qR [Qt 4] [4] .ret)))
theorem c191:FB 191 []=some (r191,s191):=by kernel_rfl
def r194:RL:=[(6,none)]
def s194:SCode:=qR [Qf 6] [0,1,2] (qs (qR [Qm 10 0,Qn 11 10,Qm 12 1,Qn 13 12,Qv 14 .neq 11 13] [0,1,2,14] (.cond (.t 14) (qR [Qf 6] [6] .ret) .skip)) (qs (qR [Qm 15 0,Qn 16 15,Qi 17 0] [1,2,15,16,17] (qs (.block 0 (.loop (qR [Qv 18 .lss 17 16] [1,2,15,16,17,18] (qs (qX 18) (qs (qs (.block 1 (qR [Qm 19 17,Qx 20 25 15 17,Ql 21 25 20,qa 8 (.alloc 52 zItm),Qm 7 19,QS 25 8 21] [1,2,7,8,15,16,17] (qR [Qm 22 1,Qm 23 7,Qx 24 25 22 23,Ql 25 25 24,qa 9 (.alloc 52 zItm),QS 25 9 25] [1,2,8,9,15,16,17] (qR [Qm 26 2,Ql 27 25 8,Ql 28 25 9,qa 29 (.call (.t 26) [.t 27,.t 28]),Qr 30 29] [1,2,15,16,17,30] (.cond (.t 30) (qR [Qf 6] [6] .ret) .skip))))) (qr [] [1,2,15,16,17])) (qr [Qu 31 .add 17 1,Qm 17 31] [1,2,15,16,17])))))) (qr [] []))) (qR [Qt 6] [6] .ret)))
theorem c194:FB 194 []=some (r194,s194):=by kernel_rfl
def r197:RL:=[(2,none)]
def s197:SCode:=qR [Qb 1 8 0,Qf 2] [1] (qs (qR [Ql 5 8 1,Q1 6 263 5,Qr 7 6] [1,7] (.cond (.t 7) Zb1 .skip)) (qs (qR [Qi 3 0] [1,3] (qs (.block 0 (.loop (qs (qR [Qm 8 3,Qa 9 7 1,Qo 10 9,Qn 11 10,Qv 12 .lss 8 11] [1,3,12] (qX 12)) (qs (qs (.block 1 (qs (qs (.drawL [Qa 15 3 1,qa 16 (.loadF false 1 (.t 15)),Qa 17 7 1,qa 18 (.loadF false 1 (.t 17)),Qm 19 3,Qx 20 8 18 19,Qa 21 3 20,Qo 22 21,Q2 23 74 16 22,Qr 24 23,Qm 25 24,qc 26 25 (fa 7 1),qc 27 25 (.loadF false 1 (.t 26)),Ym 28 25 3,qc 29 25 (.indexA 8 (.t 27) (.t 28)),qc 30 25 (lm 8 29),qc 31 25 (.call (.f 197) [.t 30]),qc 32 25 (.not (.t 31)),Qq 33 25 32] [1,3,33]) (.cond (.t 33) Zb1 .skip)) (qR [Qi 4 0] [1,3,4] (qs (.block 2 (.loop (qs (qR [Qm 34 4,Qm 35 3,Qv 36 .lss 34 35] [1,3,4,36] (.cond (.t 36) .skip (.exit 2))) (qs (qs (.block 3 (qs (.draw [Qa 39 7 1,Qo 40 39,Qm 41 4,Qx 42 8 40 41,Qa 43 3 42,Qo 44 43,Qa 45 7 1,Qo 46 45,Qm 47 3,Qx 48 8 46 47,Qa 49 3 48,Qo 50 49,Qv 51 .eql 44 50,Qm 52 51,qb 53 52 (fa 7 1),qb 54 52 (lo 53),Bm 55 52 4,qb 56 52 (.indexA 8 (.t 54) (.t 55)),qb 57 52 (fa 4 56),qb 58 52 (lo 57),qb 59 52 (fa 7 1),qb 60 52 (lo 59),Bm 61 52 3,qb 62 52 (.indexA 8 (.t 60) (.t 61)),qb 63 52 (fa 4 62),qb 64 52 (lo 63),qb 65 52 (.bin .eql (.t 58) (.t 64)),Qp 66 52 65] [1,3,4,66]) (.cond (.t 66) Zb1 .skip))) (qr [] [1,3,4])) (qr [Qm 37 4,Qu 38 .add 37 1,Qm 4 38] [1,3,4]))))) (qr [] [1,3]))))) (qr [] [1,3])) (qr [Qm 13 3,Qu 14 .add 13 1,Qm 3 14] [1,3]))))) (qr [] []))) (qR [Qt 2] [2] .ret)))
theorem c197:FB 197 [2000001]=some (r197,s197):=by kernel_rfl
def r200:RL:=[(2,none)]
def s200:SCode:=qR [Qb 1 8 0,Qf 2] [1] (qR [Ql 3 8 1,qa 4 (.call (.f 237) [.t 3,.f 264]),Qm 5 4,qb 6 5 (lm 8 1),qb 7 5 (.call (.f 125) [.t 6]),qb 8 5 (.bin .leq (.t 7) (qi 8)),Qp 9 5 8,Qm 10 9,qb 11 10 (lm 8 1),qb 12 10 (.call (.f 148) [.t 11]),qb 13 10 (.bin .leq (.t 12) (qi 1024)),Qp 14 10 13,Qm 15 14,qb 16 15 (lm 8 1),qb 17 15 (.call (.f 265) [.t 16]),Qp 18 15 17,Qm 2 18] [2] .ret)
theorem c200:FB 200 [2000001]=some (r200,s200):=by kernel_rfl
def r218:RL:=[(2,none)]
def s218:SCode:=qR [Qf 2] [0] (qR [Qm 3 0,qa 4 (.bin .lss (.t 3) (.c (.int .i32 65))),Qm 5 4,Ym 6 5 0,qc 7 5 (.bin .gtr (.t 6) (.c (.int .i32 90))),Qq 8 5 7,Qm 2 8] [2] .ret)
theorem c218:FB 218 []=some (r218,s218):=by kernel_rfl
def r239:RL:=[(3,none)]
def s239:SCode:=qR [Qb 2 8 0,Qf 3] [1,2] (qR [Qo 4 1,Qa 5 0 2,Ql 6 3 5,qa 7 (.buildS 23 3 1 Zb5 [(0,.t 6)]),Qw 8 23 3 24 4 7,QS 1 1 8] [] (qR [Qt 3] [3] .ret))
theorem c239:FB 239 [2000002]=some (r239,s239):=by kernel_rfl
def r248:RL:=[(2,none),(3,none)]
def s248:SCode:=qR [Qb 1 8 0,qa 2 (.mov (.c (.str []))),Qi 3 0] [1] (qR [Ql 6 8 1,Q1 7 278 6,Qm 4 7] [4] (qs (qR [Qm 8 4,Qn 9 8,Qu 10 .eql 9 0] [4,10] (.cond (.t 10) (qR [qa 2 (.mov (.c (.str []))),Qi 3 1] [2,3] .ret) .skip)) (qR [Qm 11 4,qa 12 (.call (.f 279) [.t 11,.c (.str [10])]),qa 13 (.bin .add (.t 12) (.c (.str [10]))),Qm 5 13] [5] (qs (qR [Qm 14 5,QN 15 14,Qu 16 .gtr 15 16384] [5,16] (.cond (.t 16) (qR [qa 2 (.mov (.c (.str []))),Qi 3 6] [2,3] .ret) .skip)) (qR [Qm 17 5,Qm 2 17,Qi 3 0] [2,3] .ret)))))
theorem c248:FB 248 [2000001]=some (r248,s248):=by kernel_rfl
def r257:RL:=[(4,none)]
def s257:SCode:=qR [Qf 4] [0,1] (qs Zb3 (qs (qR [Qm 11 0,Qn 12 11,Qi 13 0] [0,1,12,13] (qs (.block 0 (.loop (qR [Qv 14 .lss 13 12] [0,1,12,13,14] (qs (qX 14) (qs (qs (.block 1 (qR [Qm 15 13,Qm 5 15] [0,1,5,12,13] (qs (.draw [Qm 16 0,Qm 17 5,Qx 18 4 16 17,Ql 19 4 18,Qm 20 1,Qm 21 5,Qx 22 4 20 21,Ql 23 4 22,qa 24 (.eqs true [2,1,1,1] (.t 19) (.t 23))] [0,1,12,13,24]) (.cond (.t 24) Zb7 .skip)))) (qr [] [0,1,12,13])) Zb12))))) (qr [] []))) (qR [Qt 4] [4] .ret)))
theorem c257:FB 257 []=some (r257,s257):=by kernel_rfl
def r263:RL:=[(2,none)]
def s263:SCode:=qR [Qb 1 8 0,Qf 2] [1] (qs (qR [Qa 3 3 1,Qo 4 3,Qu 5 .lss 4 0,Qm 6 5,qc 7 6 (fa 3 1),qc 8 6 (lo 7),qc 9 6 (.bin .gtr (.t 8) (qi 7)),Qq 10 6 9,Qm 11 10,qc 12 11 (fa 7 1),qc 13 11 (lo 12),qc 14 11 (.len (.t 13)),qc 15 11 (.bin .gtr (.t 14) (qi 64)),Qq 16 11 15,Qm 17 16,qc 18 17 (fa 5 1),qc 19 17 (lo 18),qc 20 17 (.call (.f 291) [.t 19]),qc 21 17 (.not (.t 20)),Qq 22 17 21,Qm 23 22,qc 24 23 (fa 6 1),qc 25 23 (lo 24),qc 26 23 (.call (.f 291) [.t 25]),qc 27 23 (.not (.t 26)),Qq 28 23 27] [1,28] (.cond (.t 28) Zb1 .skip)) (qs (qR [Qa 29 3 1,Qo 30 29,Qu 31 .eql 30 0] [1,31] (.cond (.t 31) (qR [Qa 32 4 1,Qo 33 32,qa 34 (.bin .eql (.t 33) (.c (.str []))),Qm 35 34,qb 36 35 (fa 5 1),qb 37 35 (lo 36),qb 38 35 (.len (.t 37)),qb 39 35 (.bin .eql (.t 38) (qi 0)),Qp 40 35 39,Qm 41 40,qb 42 41 (fa 6 1),qb 43 41 (lo 42),qb 44 41 (.len (.t 43)),qb 45 41 (.bin .eql (.t 44) (qi 0)),Qp 46 41 45,Qm 2 46] [2] .ret) .skip)) (qR [Qa 47 4 1,Qo 48 47,Q1 49 78 48,Qm 2 49] [2] .ret)))
theorem c263:FB 263 [2000001]=some (r263,s263):=by kernel_rfl
def r266:RL:=[(4,none)]
def s266:SCode:=qR [Qi 4 0] [0,1] (qs (qR [Qm 6 0,Qn 7 6,Qi 8 0] [0,1,7,8] (qs (.block 0 (.loop (qR [Qv 9 .lss 8 7] [0,1,7,8,9] (qs (qX 9) (qs (qs (.block 1 (qR [Qm 10 8,Qm 5 10] [0,1,5,7,8] (qR [Qm 11 1,Qm 12 0,Qm 13 5,Qx 14 1 12 13,Qo 15 14,Qv 16 .eql 11 15] [0,1,5,7,8,16] Zb8))) (qr [] [0,1,7,8])) Zb13))))) (qr [] []))) (qR [Qi 4 (-1)] [4] .ret))
theorem c266:FB 266 []=some (r266,s266):=by kernel_rfl
def r269:RL:=[(4,none)]
def s269:SCode:=qR [Qf 4] [0,1] (qR [Qm 5 0,Qm 6 1,Q2 7 295 5 6,Qu 8 .geq 7 0,Qm 4 8] [4] .ret)
theorem c269:FB 269 []=some (r269,s269):=by kernel_rfl
def r272:RL:=[(4,none)]
def s272:SCode:=qR [Qi 4 0] [0,1] (qs (qR [Qm 6 0,Qn 7 6,Qi 8 0] [0,1,7,8] (qs (.block 0 (.loop (qR [Qv 9 .lss 8 7] [0,1,7,8,9] (qs (qX 9) (qs (qs (.block 1 (qR [Qm 10 8,Qm 5 10] [0,1,5,7,8] (qR [Qm 11 1,Qm 12 0,Qm 13 5,Qx 14 4 12 13,Ql 15 4 14,qa 16 (.call (.t 11) [.t 15])] [0,1,5,7,8,16] Zb8))) (qr [] [0,1,7,8])) Zb13))))) (qr [] []))) (qR [Qi 4 (-1)] [4] .ret))
theorem c272:FB 272 []=some (r272,s272):=by kernel_rfl
def r278:RL:=[(2,none)]
def s278:SCode:=qR [Qb 1 8 0,Qz 2] [1] (qs (qR [Ql 5 8 1,Q1 6 307 5,Q1 7 200 6,Qr 8 7] [1,8] (.cond (.t 8) (qR [Qz 2] [2] .ret) .skip)) (qR [qa 3 (.alloc 47 [.nil])] [1,3] (qR [qa 4 (.alloc 274 [.sc .nilFunc])] [1,3,4] (qR [qa 9 (.mkfun (.func 308) [] [.t 3,.t 4]),QS 1 4 9] [1,3,4] (qR [Qo 10 4,Ql 11 8 1,qa 12 (.call (.t 10) [.t 11,qi 0])] [3] (qR [Qo 13 3,Qm 2 13] [2] .ret))))))
theorem c278:FB 278 [2000001]=some (r278,s278):=by kernel_rfl
def r281:RL:=[(2,none)]
def s281:SCode:=qR [Qb 1 4 0,Qf 2] [1] (qR [Qa 3 1 1,Ql 4 3 3,qa 5 (.build Zb5 []),qa 6 (.eqs true [1,1,1] (.t 4) (.t 5)),Qm 2 6] [2] .ret)
theorem c281:FB 281 [2000001]=some (r281,s281):=by kernel_rfl
def r293:RL:=[(2,none)]
def s293:SCode:=qR [Qf 2] [0] (qR [Qz 3] [0,3] (qs (qR [Qm 6 0,Qn 7 6,Qi 8 0] [0,3,6,7,8] (qs (.block 0 (.loop (qR [Qv 9 .lss 8 7] [0,3,6,7,8,9] (qs (qX 9) (qs (qs (.block 1 (qR [Qx 10 4 6 8,Ql 11 4 10,qa 5 (.alloc 33 [.str [],.int .i64 0,.int .i64 0,.int .i64 0]),QS 4 5 11] [0,3,5,6,7,8] (qr [Qm 12 3,Qa 13 0 5,Qo 14 13,qa 15 (.buildS 9 1 1 [.str []] [(0,.t 14)]),Qw 16 9 1 16 12 15,Qm 3 16] [0,3,6,7,8]))) (qr [] [0,3,6,7,8])) (qr [Qu 17 .add 8 1,Qm 8 17] [0,3,6,7,8])))))) (qr [] [0,3]))) (qR [Qm 18 0,Qn 19 18,Qu 20 .leq 19 256,Qm 21 20,Bm 22 21 3,qb 23 21 (.call (.f 223) [.t 22]),Qp 24 21 23,Qm 2 24] [2] .ret)))
theorem c293:FB 293 []=some (r293,s293):=by kernel_rfl
def r296:RL:=[(2,none)]
def s296:SCode:=qR [Qf 2] [0] (qR [Qm 3 0,qa 4 (.bin .lss (.t 3) (.c (.int .u8 33))),Qm 5 4,Ym 6 5 0,qc 7 5 (.bin .gtr (.t 6) (.c (.int .u8 126))),Qq 8 5 7,Qm 2 8] [2] .ret)
theorem c296:FB 296 []=some (r296,s296):=by kernel_rfl
def r308:RL:=[]
def s308:SCode:=qR [Qb 4 8 0] [1,2,3,4] (qs (.drawT (.step (Qs 9 8 4) (.step (Qm 10 1) (.both (.step (Qo 8 2) (.step (Q2 11 309 9 10) Zb2)) (.step (Q2 11 309 9 10) (.both (.step (Qo 8 2) Zb2) (.step Zb11 (.step (Qo 8 2) Zb6))))))) [1,3,4]) (qR [Qa 14 7 4,Qo 15 14,Qn 16 15,Qi 17 0] [1,3,15,16,17] (qs (.block 0 (.loop (qR [Qv 18 .lss 17 16] [1,3,15,16,17,18] (qs (qX 18) (qs (qs (.block 1 (qR [Qx 19 8 15 17,Ql 20 8 19,QU 7 27,QS 8 7 20] [1,3,7,15,16,17] (qr [Qo 21 3,Ql 22 8 7,Qm 23 1,Qu 24 .add 23 1,qa 25 (.call (.t 21) [.t 22,.t 24])] [1,3,15,16,17]))) (qr [] [1,3,15,16,17])) (qr [Qu 26 .add 17 1,Qm 17 26] [1,3,15,16,17])))))) (qr [] []))))
theorem c308:FB 308 [2000004]=some (r308,s308):=by kernel_rfl
def r317:RL:=[(2,none)]
def s317:SCode:=qR [Qz 2] [0] (qR [qa 5 (.buildS 9 1 0 [] []),Qm 3 5] [0,3] (qs (qR [Qi 4 0] [0,3,4] (qs (.block 0 (.loop (qs (qR [Qm 6 4,Qm 7 0,Qn 8 7,Qv 9 .lss 6 8] [0,3,4,9] (qX 9)) (qs (qs (.block 1 (qr [Qm 12 3,Qm 13 0,Qm 14 4,Qx 15 4 13 14,Qa 16 0 15,Qo 17 16,qa 18 (.buildS 9 1 1 [.str []] [(0,.t 17)]),Qw 19 9 1 16 12 18,Qm 3 19] [0,3,4])) (qr [] [0,3,4])) (qr [Qm 10 4,Qu 11 .add 10 1,Qm 4 11] [0,3,4]))))) (qr [] [3]))) (qR [Qm 20 3,Qm 2 20] [2] .ret)))
theorem c317:FB 317 []=some (r317,s317):=by kernel_rfl
def r353:RL:=[(2,some (true,25))]
def s353:SCode:=qR [Qb 1 25 0,qa 2 (.alloc 52 zItm)] [1,2] (qR [Qa 3 20 1,Qo 4 3,Qa 5 21 1,Qo 6 5,Qa 7 22 1,Qo 8 7,qa 9 (.build zItm [(20,(1,.t 4)),(21,(1,.t 6)),(22,(1,.t 8))]),QS 25 2 9] [2] .ret)
theorem c353:FB 353 [2000001]=some (r353,s353):=by kernel_rfl
end Go.Av
namespace Go.Av
open Go Go.RowKit Go.Proofs List
set_option linter.unusedSimpArgs false
set_option linter.unusedVariables false
def inR (n lo hi:Int):Bool:=decide (lo<=n)&&decide (n<=hi)
def nests (p k:Int):Bool:=
 if p=0 then decide (k=1)||decide (k=2)else if p=1 then decide (k=2)else if p=2\/p=3 then decide (k=3)||decide (k=4)||decide (k=7)else if p=4 then decide (k=5)else if p=5 then decide (k=6)else false
section
variable (G:Glob)
theorem f185 (n lo hi:Int):Pure G Tryz.prog 185 [.int .i64 n,.int .i64 lo,.int .i64 hi] (.bool (inR n lo hi)):=by
 refine Pure.w c185 λR hR=>?_
 unfold s185 r185
 (repeat' (first|(with_reducible (refine ai (λh=>?_) (λh=>?_))<;>(try simp only[DZ]at h))|simp only[EVz,seval,↓reduceIte,EV6,EV7]))
 (all_goals(((refine RET.eq hR ?_;(refine congrArg AV.bool (Bool.eq_iff_iff.2 ?_);simp only[inR,EVB]at*;omega)))))
theorem f74 (p k:Int):Pure G Tryz.prog 74 [.int .i64 p,.int .i64 k] (.bool (nests p k)):=by
 refine Pure.w c74 λR hR=>?_
 unfold s74 r74
 (repeat' (first|(with_reducible (first|refine ab (λh=>?_) (λh=>?_)|refine ai (λh=>?_) (λh=>?_))<;>(try simp only[DZ]at h))|simp only[EVz,seval,↓reduceIte,EV6,EV7]|(exfalso;omega)))
 (all_goals(((refine RET.eq hR ?_;((simp_all[nests];done))))))
end
def iz:Itm:=⟨0,[],[],0,0,⟨⟨0,0,0⟩,0,[],[],[],[]⟩,[],[],[],[],⟨0,0,[]⟩,0,0,0,[],[]⟩
section
variable (G:Glob)
theorem f48 (k:Int):Pure G Tryz.prog 48 [.int .i64 k] (.bool (inR k 0 6)):=by
 refine Pure.w c48 λR hR=>?_
 unfold s48 r48
 (repeat' (first|(with_reducible (refine ai (λh=>?_) (λh=>?_))<;>(try simp only[DZ]at h))|simp only[EVz,seval,↓reduceIte,EV6,EV7]))
 (all_goals(((refine RET.eq hR ?_;(refine congrArg AV.bool (Bool.eq_iff_iff.2 ?_);simp only[inR,EVB]at*;omega)))))
theorem f189 (k:Int) (l:List UInt8):Pure G Tryz.prog 189 [.agg [.int .i64 k,.str l]] (.bool (decide (k=0)&&decide (l=[]))):=by
 refine Pure.w c189 λR hR=>?_
 unfold s189 r189
 (repeat' (first|(with_reducible (refine ai (λh=>?_) (λh=>?_))<;>(try simp only[DZ]at h))|simp only[EVz,seval,↓reduceIte,EV6,EV7]))
 (all_goals(first|(refine RET.eq hR ?_;(refine congrArg AV.bool (Bool.eq_iff_iff.2 ?_);simp only[EVB]at*;omega))|(refine RET.eq hR ?_;((simp_all[];done)))))
theorem f167 (k:Int):Pure G Tryz.prog 167 [.int .i64 k] (.bool (inR k 0 3)):=by
 refine Pure.w c167 λR hR=>?_
 unfold s167 r167
 (repeat' (first|(with_reducible refine aa (f185 G _ _ _) ?_)|simp only[EVz,seval,↓reduceIte,EV6,EV7]))
 (all_goals((exact RET.eq hR rfl)))
theorem f174 (x:Itm):Pure G Tryz.prog 174 [.agg x.cs] (.bool (inR x.nth 0 256)):=by
 refine Pure.w c174 λR hR=>?_
 unfold s174 r174
 (repeat' (first|(with_reducible refine aa (f185 G _ _ _) ?_)|simp only[EVz,seval,↓reduceIte,EV6,EV7]))
 (all_goals((exact RET.eq hR rfl)))
theorem f188 (x:Itm) (n:Int):Pure G Tryz.prog 188 [.agg x.cs,.int .i64 n] (.bool (inR x.act 1 1048576&&inR x.item n 31)):=by
 refine Pure.w c188 λR hR=>?_
 unfold s188 r188
 (repeat' (first|(with_reducible (refine ai (λh=>?_) (λh=>?_))<;>(try simp only[DZ]at h))|(with_reducible refine aa (f185 G _ _ _) ?_)|simp only[EVz,seval,↓reduceIte,EV6,EV7]))
 (all_goals(((refine RET.eq hR ?_;((simp_all[];done))))))
theorem f165 (x:Itm):Pure G Tryz.prog 165 [.agg x.cs] (.agg (Itm.cs {iz with wh:=x.wh,unit:=x.unit})):=by
 refine Pure.w c165 λR hR=>?_
 unfold s165 r165
 (repeat' (first|simp only[EVz,seval,↓reduceIte,EV6,EV7]|(with_reducible intro blk hblk;(try(have hnx:=hblk;simp only[EVK]at hnx;(have hne:=hnx))))))
 (all_goals(((refine hR _ _ (Or.inr ?_);simp[*,bc,aR,Itm.cs_eq,U.cs_eq,iz];done))))
theorem f169 (x:Itm):Pure G Tryz.prog 169 [.agg x.cs] (.agg (Itm.cs iz)):=by
 refine Pure.w c169 λR hR=>?_
 unfold s169 r169
 (repeat' (first|simp only[EVz,seval,↓reduceIte,EV6,EV7]|(with_reducible intro blk hblk;(try(have hnx:=hblk;simp only[EVK]at hnx;(have hne:=hnx))))))
 (all_goals(((refine hR _ _ (Or.inr ?_);simp[*,bc,aR,Itm.cs_eq,U.cs_eq,iz];done))))
theorem f170 (x:Itm):Pure G Tryz.prog 170 [.agg x.cs] (.bool true):=by
 refine Pure.w c170 λR hR=>?_
 unfold s170 r170
 (repeat' (simp only[EVz,seval,↓reduceIte,EV6,EV7]))
 (all_goals((exact RET.eq hR rfl)))
theorem f171 (x:Itm):Pure G Tryz.prog 171 [.agg x.cs] (.agg (Itm.cs {iz with old:=x.old,new:=x.new,nth:=x.nth})):=by
 refine Pure.w c171 λR hR=>?_
 unfold s171 r171
 (repeat' (first|simp only[EVz,seval,↓reduceIte,EV6,EV7]|(with_reducible intro blk hblk;(try(have hnx:=hblk;simp only[EVK]at hnx;(have hne:=hnx))))))
 (all_goals(((refine hR _ _ (Or.inr ?_);simp[*,bc,aR,Itm.cs_eq,U.cs_eq,iz];done))))
theorem f175 (x:Itm):Pure G Tryz.prog 175 [.agg x.cs] (.agg (Itm.cs {iz with old:=x.old,new:=x.new,nth:=x.nth})):=by
 refine Pure.w c175 λR hR=>?_
 unfold s175 r175
 (repeat' (first|simp only[EVz,seval,↓reduceIte,EV6,EV7]|(with_reducible intro blk hblk;(try(have hnx:=hblk;simp only[EVK]at hnx;(have hne:=hnx))))))
 (all_goals(((refine hR _ _ (Or.inr ?_);simp[*,bc,aR,Itm.cs_eq,U.cs_eq,iz];done))))
theorem f177 (x:Itm):Pure G Tryz.prog 177 [.agg x.cs] (.agg (Itm.cs {iz with new:=x.new})):=by
 refine Pure.w c177 λR hR=>?_
 unfold s177 r177
 (repeat' (first|simp only[EVz,seval,↓reduceIte,EV6,EV7]|(with_reducible intro blk hblk;(try(have hnx:=hblk;simp only[EVK]at hnx;(have hne:=hnx))))))
 (all_goals(((refine hR _ _ (Or.inr ?_);simp[*,bc,aR,Itm.cs_eq,U.cs_eq,iz];done))))
theorem f179 (x:Itm):Pure G Tryz.prog 179 [.agg x.cs] (.agg (Itm.cs {iz with label:=x.label})):=by
 refine Pure.w c179 λR hR=>?_
 unfold s179 r179
 (repeat' (first|simp only[EVz,seval,↓reduceIte,EV6,EV7]|(with_reducible intro blk hblk;(try(have hnx:=hblk;simp only[EVK]at hnx;(have hne:=hnx))))))
 (all_goals(((refine hR _ _ (Or.inr ?_);simp[*,bc,aR,Itm.cs_eq,U.cs_eq,iz];done))))
theorem f181 (x:Itm):Pure G Tryz.prog 181 [.agg x.cs] (.agg (Itm.cs {iz with to_:=x.to_,wh:=x.wh})):=by
 refine Pure.w c181 λR hR=>?_
 unfold s181 r181
 (repeat' (first|simp only[EVz,seval,↓reduceIte,EV6,EV7]|(with_reducible intro blk hblk;(try(have hnx:=hblk;simp only[EVK]at hnx;(have hne:=hnx))))))
 (all_goals(((refine hR _ _ (Or.inr ?_);simp[*,bc,aR,Itm.cs_eq,U.cs_eq,iz];done))))
theorem f183 (x:Itm):Pure G Tryz.prog 183 [.agg x.cs] (.agg (Itm.cs {iz with event:=x.event,day:=x.day})):=by
 refine Pure.w c183 λR hR=>?_
 unfold s183 r183
 (repeat' (first|simp only[EVz,seval,↓reduceIte,EV6,EV7]|(with_reducible intro blk hblk;(try(have hnx:=hblk;simp only[EVK]at hnx;(have hne:=hnx))))))
 (all_goals(((refine hR _ _ (Or.inr ?_);simp[*,bc,aR,Itm.cs_eq,U.cs_eq,iz];done))))
theorem f186 (x:Itm):Pure G Tryz.prog 186 [.agg x.cs] (.agg (Itm.cs {iz with act:=x.act,item:=x.item,by_:=x.by_})):=by
 refine Pure.w c186 λR hR=>?_
 unfold s186 r186
 (repeat' (first|simp only[EVz,seval,↓reduceIte,EV6,EV7]|(with_reducible intro blk hblk;(try(have hnx:=hblk;simp only[EVK]at hnx;(have hne:=hnx))))))
 (all_goals(((refine hR _ _ (Or.inr ?_);simp[*,bc,aR,Itm.cs_eq,U.cs_eq,iz];done))))
theorem f353 (x:Itm):Pure G Tryz.prog 353 [.agg x.cs] (.agg (Itm.cs {iz with act:=x.act,item:=x.item,day:=x.day})):=by
 refine Pure.w c353 λR hR=>?_
 unfold s353 r353
 (repeat' (first|simp only[EVz,seval,↓reduceIte,EV6,EV7]|(with_reducible intro blk hblk;(try(have hnx:=hblk;simp only[EVK]at hnx;(have hne:=hnx))))))
 (all_goals(((refine hR _ _ (Or.inr ?_);simp[*,bc,aR,Itm.cs_eq,U.cs_eq,iz];done))))
theorem f354 (x:Itm):Pure G Tryz.prog 354 [.agg x.cs] (.bool (inR x.act 1 1048576&&inR x.item (-1) 31&&inR x.day 0 1048576)):=by
 refine Pure.w c354 λR hR=>?_
 unfold s354 r354
 (repeat' (first|(with_reducible (refine ai (λh=>?_) (λh=>?_))<;>(try simp only[DZ]at h))|(with_reducible first|refine aa (f188 G _ _) ?_|refine aa (f185 G _ _ _) ?_)|simp only[EVz,seval,↓reduceIte,EV6,EV7]))
 (all_goals(((refine RET.eq hR ?_;((simp_all[];done))))))
end
def okCh (c:UInt8):Bool:=decide ((33:Int)<=c.toNat)&&decide ((c.toNat:Int)<=126)
def bf (s:List UInt8):Bool:=decide ((1:Int)<=s.length)&&(decide ((s.length:Int)<=24)&&s.all okCh)
section
variable (G:Glob)
theorem f81 (s:List UInt8):Pure G Tryz.prog 81 [.str s] (.bool (bf s)):=by
 refine Pure.w c81 λR hR=>?_
 unfold s81 r81
 (repeat' (first|(with_reducible (first|refine ab (λh=>?_) (λh=>?_)|refine ai (λh=>?_) (λh=>?_))<;>(try simp only[DZ]at h))|simp only[EVz,seval,↓reduceIte,EV6,EV7,hx.yes,hx.le0,hx.lt',hx.get,hx.row,hw]|simp only[EVz,seval,↓reduceIte,EV6,EV7,hn]|simp only[EVz,seval,↓reduceIte,EV6,EV7]|(refine ap hx () ?_ (Weak.rfl' _ _))|(refine ay (s) (λi r (c:Unit)=>s.all okCh=r.all okCh) (λi c=>[(0,.str s),(3,.int .i64 i)]) (λ_ _=>[]) () (by rfl) (Weak.rfl' _ _) (by omega) (λi x r c hok hx hw=>?_) (λc hok hn=>?_))))
 (all_goals(first|(refine RET.eq hR ?_;(refine congrArg AV.bool (Bool.eq_iff_iff.2 ?_);simp only[bf,okCh,EVB]at*;omega))|(refine RET.eq hR ?_;first|(simp_all[bf,okCh];done)|(simp_all[bf,okCh];omega))|(simp_all[bf,okCh];done)))
end
theorem dv {α:Type} [DecidableEq α] {a b:List α} {i:Nat} {x:α} {r:List α} (hok:a.length=b.length/\decide (a=b)=decide (x::r=b.drop i)) (hx:Rest a i x r):
  ∃y r',Rest b i y r'/\b.drop (i+1)=r'/\decide (a=b)=decide (x::r=y::r'):=by
 have h1:=hx.lt
 cases hd:b.drop i with
 |nil=>
  have:=congrArg List.length hd
  simp at this
  omega
 |cons y r'=>exact⟨y,r',gk hd,(gk hd).next,by rw[hok.2,hd]⟩
section
variable (G:Glob)
theorem f42 (a b:List Wd) (ha:a.length<9000000000000000000):Pure G Tryz.prog 42 [.lst 4 (a.map Wd.cs),.lst 4 (b.map Wd.cs)] (.bool (decide (a=b))):=by
 refine Pure.w c42 λR hR=>?_
 unfold s42 r42
 by_cases hl:a.length=b.length
 ·have e0:decide ((a.length:Int)≠(b.length:Int))=false:=by simp[hl]
  (repeat' (first|(with_reducible (refine ab (λh=>?_) (λh=>?_))<;>(try simp only[DZ]at h))|(with_reducible refine AI (by omega) ?_)|simp only[EVz,seval,↓reduceIte,EV6,EV7,e0,hx.yes,hx.le0,hx.lt',hx.get,hx.row,hw,hy.row,hy.lt']|simp only[EVz,seval,↓reduceIte,EV6,EV7,e0,hn]|simp only[EVz,seval,↓reduceIte,EV6,EV7,e0]|(refine ap hx () ?_ (Weak.rfl' _ _))|(refine ay (a) (λi r (c:Unit)=>a.length=b.length/\decide (a=b)=decide (r=b.drop i)) (λi c=>[(0,.lst 4 (a.map Wd.cs)),(1,.lst 4 (b.map Wd.cs)),(5,.int .i64 i)]) (λ_ _=>[]) () (by((simp[*];done))) (Weak.rfl' _ _) (by omega) (λi x r c hok hx hw=>?_) (λc hok hn=>?_)<;>(try(obtain⟨y,r2,hy,hyn,hok⟩:=dv hok hx;(cases x;cases y))))))
  (all_goals(first|(refine RET.eq hR ?_;first|(simp_all[hl];done)|grind)|(simp_all[hl];done)))
 ·have e0:decide ((a.length:Int)≠(b.length:Int))=true:=by simp;omega
  have e1:decide (a=b)=false:=by simp;rintro rfl;exact hl rfl
  rw[e1]at hR
  (repeat' (simp only[EVz,seval,↓reduceIte,EV6,EV7,e0]))
  (all_goals((exact RET.eq hR rfl)))
theorem f192 (a b:List (List UInt8)) (ha:a.length<9000000000000000000):Pure G Tryz.prog 192 [.lst 1 (a.map srow),.lst 1 (b.map srow)] (.bool (decide (a=b))):=by
 refine Pure.w c192 λR hR=>?_
 unfold s192 r192
 by_cases hl:a.length=b.length
 ·have e0:decide ((a.length:Int)≠(b.length:Int))=false:=by simp[hl]
  (repeat' (first|(with_reducible (refine ab (λh=>?_) (λh=>?_))<;>(try simp only[DZ]at h))|(with_reducible refine AI (by omega) ?_)|simp only[EVz,seval,↓reduceIte,EV6,EV7,e0,hx.yes,hx.le0,hx.lt',hx.get,hx.row,hw,hy.row,hy.lt']|simp only[EVz,seval,↓reduceIte,EV6,EV7,e0,hn]|simp only[EVz,seval,↓reduceIte,EV6,EV7,e0]|(refine ap hx () ?_ (Weak.rfl' _ _))|(refine ay (a) (λi r (c:Unit)=>a.length=b.length/\decide (a=b)=decide (r=b.drop i)) (λi c=>[(0,.lst 1 (a.map srow)),(1,.lst 1 (b.map srow)),(12,.int .i64 a.length),(13,.int .i64 i)]) (λ_ _=>[]) () (by((simp[*];done))) (Weak.rfl' _ _) (by omega) (λi x r c hok hx hw=>?_) (λc hok hn=>?_)<;>(try(obtain⟨y,r2,hy,hyn,hok⟩:=dv hok hx;skip)))))
  (all_goals(first|(refine RET.eq hR ?_;((simp_all[hl];done)))|(simp_all[hl];done)))
 ·have e0:decide ((a.length:Int)≠(b.length:Int))=true:=by simp;omega
  have e1:decide (a=b)=false:=by simp;rintro rfl;exact hl rfl
  rw[e1]at hR
  (repeat' (simp only[EVz,seval,↓reduceIte,EV6,EV7,e0]))
  (all_goals((exact RET.eq hR rfl)))
theorem f191 (a b:List Stp) (ha:a.length<9000000000000000000):Pure G Tryz.prog 191 [.lst 2 (a.map Stp.cs),.lst 2 (b.map Stp.cs)] (.bool (decide (a=b))):=by
 refine Pure.w c191 λR hR=>?_
 unfold s191 r191
 by_cases hl:a.length=b.length
 ·have e0:decide ((a.length:Int)≠(b.length:Int))=false:=by simp[hl]
  (repeat' (first|(with_reducible (refine ab (λh=>?_) (λh=>?_))<;>(try simp only[DZ]at h))|(with_reducible refine AI (by omega) ?_)|simp only[EVz,seval,↓reduceIte,EV6,EV7,e0,hx.yes,hx.le0,hx.lt',hx.get,hx.row,hw,hy.row,hy.lt']|simp only[EVz,seval,↓reduceIte,EV6,EV7,e0,hn]|simp only[EVz,seval,↓reduceIte,EV6,EV7,e0]|(refine ap hx () ?_ (Weak.rfl' _ _))|(refine ay (a) (λi r (c:Unit)=>a.length=b.length/\decide (a=b)=decide (r=b.drop i)) (λi c=>[(0,.lst 2 (a.map Stp.cs)),(1,.lst 2 (b.map Stp.cs)),(12,.int .i64 a.length),(13,.int .i64 i)]) (λ_ _=>[]) () (by((simp[*];done))) (Weak.rfl' _ _) (by omega) (λi x r c hok hx hw=>?_) (λc hok hn=>?_)<;>(try(obtain⟨y,r2,hy,hyn,hok⟩:=dv hok hx;(cases x;cases y))))))
  (all_goals(first|(refine RET.eq hR ?_;first|(simp_all[hl];done)|grind)|(simp_all[hl];done)))
 ·have e0:decide ((a.length:Int)≠(b.length:Int))=true:=by simp;omega
  have e1:decide (a=b)=false:=by simp;rintro rfl;exact hl rfl
  rw[e1]at hR
  (repeat' (simp only[EVz,seval,↓reduceIte,EV6,EV7,e0]))
  (all_goals((exact RET.eq hR rfl)))
theorem f257 (a b:List Wd) (ha:a.length<9000000000000000000):Pure G Tryz.prog 257 [.lst 4 (a.map Wd.cs),.lst 4 (b.map Wd.cs)] (.bool (decide (a=b))):=by
 refine Pure.w c257 λR hR=>?_
 unfold s257 r257
 by_cases hl:a.length=b.length
 ·have e0:decide ((a.length:Int)≠(b.length:Int))=false:=by simp[hl]
  (repeat' (first|(with_reducible (refine ab (λh=>?_) (λh=>?_))<;>(try simp only[DZ]at h))|(with_reducible refine AI (by omega) ?_)|simp only[EVz,seval,↓reduceIte,EV6,EV7,e0,hx.yes,hx.le0,hx.lt',hx.get,hx.row,hw,hy.row,hy.lt']|simp only[EVz,seval,↓reduceIte,EV6,EV7,e0,hn]|simp only[EVz,seval,↓reduceIte,EV6,EV7,e0]|(refine ap hx () ?_ (Weak.rfl' _ _))|(refine ay (a) (λi r (c:Unit)=>a.length=b.length/\decide (a=b)=decide (r=b.drop i)) (λi c=>[(0,.lst 4 (a.map Wd.cs)),(1,.lst 4 (b.map Wd.cs)),(12,.int .i64 a.length),(13,.int .i64 i)]) (λ_ _=>[]) () (by((simp[*];done))) (Weak.rfl' _ _) (by omega) (λi x r c hok hx hw=>?_) (λc hok hn=>?_)<;>(try(obtain⟨y,r2,hy,hyn,hok⟩:=dv hok hx;(cases x;cases y))))))
  (all_goals(first|(refine RET.eq hR ?_;first|(simp_all[hl];done)|grind)|(simp_all[hl];done)))
 ·have e0:decide ((a.length:Int)≠(b.length:Int))=true:=by simp;omega
  have e1:decide (a=b)=false:=by simp;rintro rfl;exact hl rfl
  rw[e1]at hR
  (repeat' (simp only[EVz,seval,↓reduceIte,EV6,EV7,e0]))
  (all_goals((exact RET.eq hR rfl)))
end
def idxF {α:Type} (p:α->Bool):Nat->List α->Int
 |_,[]=>-1
 |i,x::r=>if p x then (i:Int)else idxF p (i+1) r
theorem d7 {α:Type} (p:α->Bool):∀(l:List α) (i:Nat),decide (0<=idxF p i l)=l.any p
 |[],i=>rfl
 |x::r,i=>by
  unfold idxF
  cases h:p x with
  |true=>simp[h]
  |false=>simp[h];simpa using d7 p r (i+1)
def dq (l:List (List UInt8)):Bool:=decide ((l.length:Int)<=256)&&l.all bf
def irow (n:Int):List AV:=[.int .i64 n]
theorem mo (n:Int):irow n=[.int .i64 n]:=(rfl)
def brow (c:UInt8):List AV:=[.int .u8 c.toNat]
theorem li (l:List UInt8):dQ l=l.map brow:=rfl
theorem mM (c:UInt8):brow c=[.int .u8 c.toNat]:=(rfl)
theorem gw {α:Type} (p:α->Bool) (l:List α):(!l.any λx=>!p x)=l.all p:=by
 induction l with
 |nil=>rfl
 |cons x r ih=>simp[←ih]
section
variable (G:Glob)
theorem f296 (c:UInt8):Pure G Tryz.prog 296 [.int .u8 c.toNat] (.bool (!okCh c)):=by
 refine Pure.w c296 λR hR=>?_
 unfold s296 r296
 (repeat' (first|(with_reducible (refine ai (λh=>?_) (λh=>?_))<;>(try simp only[DZ]at h))|simp only[EVz,seval,↓reduceIte,EV6,EV7]))
 (all_goals(((refine RET.eq hR ?_;(refine congrArg AV.bool (Bool.eq_iff_iff.2 ?_);simp only[okCh,EVB]at*;omega)))))
theorem f318 (f:Value) (p:UInt8->Bool) (l:List UInt8) (hl:l.length<9000000000000000000) (hf:∀x∈l,eZ G Tryz.prog f [.int .u8 x.toNat] (.bool (p x))):Pure G Tryz.prog 318 [.lst 1 (l.map brow),.sc f] (.int .i64 (idxF p 0 l)):=by
 refine Pure.w c318 λR hR=>?_
 unfold s318 r318
 (repeat' (first|(with_reducible (refine ab (λh=>?_) (λh=>?_))<;>(try simp only[DZ]at h))|simp only[EVz,seval,↓reduceIte,EV6,EV7,mM,hx.yes,hx.le0,hx.lt',hx.get,hx.row,hw]|simp only[EVz,seval,↓reduceIte,EV6,EV7,mM,hn]|simp only[EVz,seval,↓reduceIte,EV6,EV7,mM]|(refine ap hx () ?_ (Weak.rfl' _ _))|(refine ay (l) (λi r (c:Unit)=>idxF p 0 l=idxF p i r) (λi c=>[(0,.lst 1 (l.map brow)),(1,.sc f),(7,.int .i64 l.length),(8,.int .i64 i)]) (λ_ _=>[]) () (by rfl) (Weak.rfl' _ _) (by omega) (λi x r c hok hx hw=>?_) (λc hok hn=>?_))|(refine aI (hf _ hx.mem) ?_)))
 (all_goals(first|(refine RET.eq hR ?_;first|(simp only[idxF,hok,EVC,decide_true,decide_false];done)|(simp_all[idxF];done))|(simp_all[idxF];done)))
theorem f297 (f:Value) (p:UInt8->Bool) (l:List UInt8) (hl:l.length<9000000000000000000) (hf:∀x∈l,eZ G Tryz.prog f [.int .u8 x.toNat] (.bool (p x))):Pure G Tryz.prog 297 [.lst 1 (l.map brow),.sc f] (.bool (l.any p)):=by
 refine Pure.w c297 λR hR=>?_
 unfold s297 r297
 (repeat' (first|(with_reducible refine aa (f318 G f p l hl hf) ?_)|simp only[EVz,seval,↓reduceIte,EV6,EV7]))
 (all_goals(((refine RET.eq hR ?_;((simp_all[d7];done))))))
theorem f295 (f:Value) (p:List UInt8->Bool) (l:List (List UInt8)) (hl:l.length<9000000000000000000) (hf:∀x∈l,eZ G Tryz.prog f [.str x] (.bool (p x))):Pure G Tryz.prog 295 [.lst 1 (l.map srow),.sc f] (.int .i64 (idxF p 0 l)):=by
 refine Pure.w c295 λR hR=>?_
 unfold s295 r295
 (repeat' (first|(with_reducible (refine ab (λh=>?_) (λh=>?_))<;>(try simp only[DZ]at h))|simp only[EVz,seval,↓reduceIte,EV6,EV7,hx.yes,hx.le0,hx.lt',hx.get,hx.row,hw]|simp only[EVz,seval,↓reduceIte,EV6,EV7,hn]|simp only[EVz,seval,↓reduceIte,EV6,EV7]|(refine ap hx () ?_ (Weak.rfl' _ _))|(refine ay (l) (λi r (c:Unit)=>idxF p 0 l=idxF p i r) (λi c=>[(0,.lst 1 (l.map srow)),(1,.sc f),(7,.int .i64 l.length),(8,.int .i64 i)]) (λ_ _=>[]) () (by rfl) (Weak.rfl' _ _) (by omega) (λi x r c hok hx hw=>?_) (λc hok hn=>?_))|(refine aI (hf _ hx.mem) ?_)))
 (all_goals(first|(refine RET.eq hR ?_;first|(simp only[idxF,hok,EVC,decide_true,decide_false];done)|(simp_all[idxF];done))|(simp_all[idxF];done)))
theorem f269 (f:Value) (p:List UInt8->Bool) (l:List (List UInt8)) (hl:l.length<9000000000000000000) (hf:∀x∈l,eZ G Tryz.prog f [.str x] (.bool (p x))):Pure G Tryz.prog 269 [.lst 1 (l.map srow),.sc f] (.bool (l.any p)):=by
 refine Pure.w c269 λR hR=>?_
 unfold s269 r269
 (repeat' (first|(with_reducible refine aa (f295 G f p l hl hf) ?_)|simp only[EVz,seval,↓reduceIte,EV6,EV7]))
 (all_goals(((refine RET.eq hR ?_;((simp_all[d7];done))))))
theorem f272 (f:Value) (p:Wd->Bool) (l:List Wd) (hl:l.length<9000000000000000000) (hf:∀x∈l,eZ G Tryz.prog f [.agg x.cs] (.bool (p x))):Pure G Tryz.prog 272 [.lst 4 (l.map Wd.cs),.sc f] (.int .i64 (idxF p 0 l)):=by
 refine Pure.w c272 λR hR=>?_
 unfold s272 r272
 (repeat' (first|(with_reducible (refine ab (λh=>?_) (λh=>?_))<;>(try simp only[DZ]at h))|simp only[EVz,seval,↓reduceIte,EV6,EV7,hx.yes,hx.le0,hx.lt',hx.get,hx.row,hw]|simp only[EVz,seval,↓reduceIte,EV6,EV7,hn]|simp only[EVz,seval,↓reduceIte,EV6,EV7]|(refine ap hx () ?_ (Weak.rfl' _ _))|(refine ay (l) (λi r (c:Unit)=>idxF p 0 l=idxF p i r) (λi c=>[(0,.lst 4 (l.map Wd.cs)),(1,.sc f),(7,.int .i64 l.length),(8,.int .i64 i)]) (λ_ _=>[]) () (by rfl) (Weak.rfl' _ _) (by omega) (λi x r c hok hx hw=>?_) (λc hok hn=>?_))|(refine aI (hf _ hx.mem) ?_)))
 (all_goals(first|(refine RET.eq hR ?_;first|(simp only[idxF,hok,EVC,decide_true,decide_false];done)|(simp_all[idxF];done))|(simp_all[idxF];done)))
theorem f225 (f:Value) (p:Wd->Bool) (l:List Wd) (hl:l.length<9000000000000000000) (hf:∀x∈l,eZ G Tryz.prog f [.agg x.cs] (.bool (p x))):Pure G Tryz.prog 225 [.lst 4 (l.map Wd.cs),.sc f] (.bool (l.any p)):=by
 refine Pure.w c225 λR hR=>?_
 unfold s225 r225
 (repeat' (first|(with_reducible refine aa (f272 G f p l hl hf) ?_)|simp only[EVz,seval,↓reduceIte,EV6,EV7]))
 (all_goals(((refine RET.eq hR ?_;((simp_all[d7];done))))))
theorem f266 (l:List Int) (k:Int) (hl:l.length<9000000000000000000):Pure G Tryz.prog 266 [.lst 1 (l.map irow),.int .i64 k] (.int .i64 (idxF (λx=>decide (k=x)) 0 l)):=by
 refine Pure.w c266 λR hR=>?_
 unfold s266 r266
 (repeat' (first|(with_reducible (refine ab (λh=>?_) (λh=>?_))<;>(try simp only[DZ]at h))|simp only[EVz,seval,↓reduceIte,EV6,EV7,mo,hx.yes,hx.le0,hx.lt',hx.get,hx.row,hw]|simp only[EVz,seval,↓reduceIte,EV6,EV7,mo,hn]|simp only[EVz,seval,↓reduceIte,EV6,EV7,mo]|(refine ap hx () ?_ (Weak.rfl' _ _))|(refine ay (l) (λi r (c:Unit)=>idxF (λx=>decide (k=x)) 0 l=idxF (λx=>decide (k=x)) i r) (λi c=>[(0,.lst 1 (l.map irow)),(1,.int .i64 k),(7,.int .i64 l.length),(8,.int .i64 i)]) (λ_ _=>[]) () (by rfl) (Weak.rfl' _ _) (by omega) (λi x r c hok hx hw=>?_) (λc hok hn=>?_))))
 (all_goals(first|(refine RET.eq hR ?_;first|(simp only[idxF,hok,EVC,decide_true,decide_false];done)|(simp_all[idxF];done))|(simp_all[idxF];done)))
theorem f213 (l:List Int) (k:Int) (hl:l.length<9000000000000000000):Pure G Tryz.prog 213 [.lst 1 (l.map irow),.int .i64 k] (.bool (l.any λx=>decide (k=x))):=by
 refine Pure.w c213 λR hR=>?_
 unfold s213 r213
 (repeat' (first|(with_reducible refine aa (f266 G l k hl) ?_)|simp only[EVz,seval,↓reduceIte,EV6,EV7]))
 (all_goals(((refine RET.eq hR ?_;((simp_all[d7];done))))))
theorem f271 (s:List UInt8):Pure G Tryz.prog 271 [.str s] (.bool (bf s)):=by
 refine Pure.w c271 λR hR=>?_
 unfold s271 r271
 (repeat' (first|(with_reducible (refine ai (λh=>?_) (λh=>?_))<;>(try simp only[DZ]at h))|(with_reducible refine aa (f297 G _ (λc=>!okCh c) s (by omega) (λx _=>(f296 G x).v)) ?_)|simp only[EVz,seval,↓reduceIte,EV6,EV7,li,gw]|(refine mL (l:=s) (elem:=5) rfl (by omega) (by kernel_rfl) (by kernel_rfl) (by kernel_rfl) ?_)))
 all_goals(try have h1:(1:Int)<=s.length:=by have:0<s.length:=length_pos_iff.2 (by assumption);omega)
 (all_goals(first|(refine RET.eq hR ?_;(refine congrArg AV.bool (Bool.eq_iff_iff.2 ?_);simp only[bf,gw,EVB]at*;omega))|(refine RET.eq hR ?_;((simp_all[bf,gw];done)))))
end
end Go.Av
