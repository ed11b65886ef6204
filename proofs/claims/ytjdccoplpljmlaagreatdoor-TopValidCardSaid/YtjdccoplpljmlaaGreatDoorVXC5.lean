/-
  THE TRANSLATED CODE. Printed by mkcode2.py.
-/
import Derived.Test.YtjdccoplpljmlaaGreatDoorVXDattoXC1
import Derived.Test.YtjdccoplpljmlaaGreatDoorVXAv26toXGlob
import Derived.Test.YtjdccoplpljmlaaGreatDoorProg
namespace Go.Av
open Go List
set_option linter.unusedSimpArgs false
set_option linter.unusedVariables false
abbrev Zd5:SOper:=qa 29 (.raw (.index 377 (.tmp 27) (.tmp 28)))
abbrev Zd28:DT:=.step (QS 4 11 33) (.step (Qm 10 34) .done)
abbrev Zd0:DT:=.step (qa 32 (.call (.t 29) [.t 30,.t 31])) (.step (Qm 26 32) (.step (Qe 33 0 26) (.step (Qe 34 1 26) Zd28)))
abbrev Zd30:DT:=.step Zd5 Zd0
abbrev Zd8:SOper:=qa 11 (.buildS 29 8 1 zU [(0,.t 10)])
abbrev Zd2:DT:=.step (Q3 12 278 8 9 11) (.step (Qc 13 4) (.step (Qa 14 7 13) (.step (QS 1 14 12) .done)))
abbrev Zd29:DT:=.step Zd8 Zd2
abbrev Zd9:List AV:=[.int .i64 0,.int .i64 0,.int .i64 0,.int .i64 0]
abbrev Zd4:SOper:=qa 11 (.alloc 342 Zd9)
abbrev Zd7:DT:=.both (.step (qa 32 (.call (.t 29) [.t 30,.t 31])) (.step (Qm 26 32) (.step (Qe 33 0 26) (.step (Qe 34 1 26) (.step Zd4 Zd28))))) (.step Zd4 Zd0)
abbrev Zd27:DT:=.both (.step Zd5 Zd7) (.step Zd4 Zd30)
abbrev Zd1:DT:=.step (Q4 20 284 7 11 15 19) (.step (Qm 5 20) .done)
abbrev Zd12:DT:=.step (Qo 19 18) Zd1
abbrev Zd14:DT:=.step (Qo 11 10) Zd1
abbrev Zd26:DT:=.both (.step (Qo 11 10) Zd12) (.step (Qo 19 18) Zd14)
abbrev Zd13:DT:=.step (Qo 15 14) Zd1
abbrev Zd25:DT:=.both (.step (Qo 11 10) Zd13) (.step (Qo 15 14) Zd14)
abbrev Zd24:DT:=.both (.step (Qo 15 14) Zd12) (.step (Qo 19 18) Zd13)
abbrev Zd11:DT:=.step (Q1 7 366 6) Zd1
abbrev Zd23:DT:=.both (.step (Q1 7 366 6) Zd12) (.step (Qo 19 18) Zd11)
abbrev Zd22:DT:=.both (.step (Q1 7 366 6) Zd13) (.step (Qo 15 14) Zd11)
abbrev Zd21:DT:=.both (.step (Q1 7 366 6) Zd14) (.step (Qo 11 10) Zd11)
abbrev Zd20:SOper:=qa 22 (.raw (.slice 27 (.tmp 20) none (some (.tmp 21)) none))
abbrev Zd19:SOper:=qa 25 (.raw (.slice 27 (.tmp 23) (some (.tmp 24)) none none))
abbrev Zd18:DT:=.both (.step (Qo 8 7) Zd29) (.step Zd8 (.step (Qo 8 7) Zd2))
abbrev Zd17:DT:=.both (.step (Qo 9 1) Zd29) (.step Zd8 (.step (Qo 9 1) Zd2))
abbrev Zd16:DT:=.step (Qm 7 42) (.step (Qi 8 0) .done)
abbrev Zd15:DT:=.both (.step Zd5 (.step (Ql 31 3 9) Zd0)) (.step (Ql 31 3 9) Zd30)
abbrev Zd10:DT:=.step (qa 26 (.raw (.call (.mk (.builtin .append) #[.tmp 22,.tmp 25] #[27,27])))) (.step (Qm 0 26) .done)
abbrev Zd6:List AV:=[.int .i64 0,.int .i64 0,.int .i64 0]
abbrev Zd3:DT:=.step (qa 26 (.build Zd6 [(0,(1,.t 17)),(1,(1,.t 21)),(2,(1,.t 25))])) (.step (Qa 27 0 3) (.step (QS 3 27 26) .done))
def r70:RL:=[(4,some (true,8)),(5,none)]
def s70:SCode:=qR [QB 2 29 8 0,QU 4 29,Qz 5] [1,2,4] (qR [Qz 6] [1,2,4,6] (qs (qR [Qm 11 1,Qn 12 11,Qi 13 0] [2,4,6,11,12,13] (qs (.block 0 (.loop (qR [Qv 14 .lss 13 12] [2,4,6,11,12,13,14] (qs (qX 14) (qs (qs (.block 1 (qR [Qx 15 28 11 13,Ql 16 28 15,qa 8 (.alloc 159 [.int .i64 0,.int .i64 0,.int .i64 0,.int .i64 0,.nil,.nil,.int .i64 0,.int .i64 0,.int .i64 0,.int .i64 0,.int .i64 0,.int .i64 0,.str [],.nil,.nil,.nil,.nil,.nil,.str [],.str [],.int .i64 0,.int .i64 0,.str [],.int .i64 0,.int .i64 0,.int .i64 0,.str [],.nil]),QS 28 8 16] [2,4,6,8,11,12,13] (qs (qR [Qa 17 3 8,Qa 18 0 17,Qo 19 18,Q1 20 116 19,Qr 21 20] [2,4,6,8,11,12,13,21] (.cond (.t 21) (.exit 1) .skip)) (qR [Ql 23 8 2,Ql 24 28 8,Q2 25 124 23 24,Qm 22 25,Qe 26 0 22,Qe 27 1 22,QU 9 29,QS 8 9 26,Qm 10 27] [2,4,6,8,9,10,11,12,13] (qs (qR [Qm 28 10,Qu 29 .neq 28 0] [2,4,6,8,9,10,11,12,13,29] (.cond (.t 29) (qr [Qm 30 6,Qa 31 0 8,Qo 32 31,Qa 33 1 8,Qo 34 33,Qm 35 10,qa 36 (.build Zd6 [(0,(1,.t 32)),(1,(1,.t 34)),(2,(1,.t 35))]),qa 37 (.buildS 166 3 1 Zd6 [(0,.t 36)]),Qw 38 166 3 24 30 37,Qm 6 38] [2,4,6,9,11,12,13]) .skip)) (qr [Ql 39 8 9,QS 8 2 39] [2,4,6,11,12,13])))))) (qr [] [2,4,6,11,12,13])) (qr [Qu 40 .add 13 1,Qm 13 40] [2,4,6,11,12,13])))))) (qr [] [2,4,6]))) (qR [Ql 41 8 2,Qm 42 6,QS 8 4 41,Qm 5 42] [4,5] .ret)))
theorem c70:FB 70 []=some (r70,s70):=by kernel_rfl
def r109:RL:=[(4,none)]
def s109:SCode:=qR [Qb 3 3 1,Qf 4] [0,3] (qR [Qm 5 0,Ql 6 3 3,Q2 7 143 5 6,Qu 8 .geq 7 0,Qm 4 8] [4] .ret)
theorem c109:FB 109 [2000003]=some (r109,s109):=by kernel_rfl
def r124:RL:=[(4,some (true,8)),(5,none)]
def s124:SCode:=qR [Qb 2 8 0,Qb 3 28 1,QU 4 29,Qi 5 0] [2,3,4] (qs (.drawL [Qa 16 3 3,Qa 17 0 16,qa 18 (.loadF false 1 (.t 17)),Q0 15 184,qa 19 (.raw (.lookup 204 (.tmp 15) (.tmp 18) true)),Qm 14 19,Qe 20 0 14,Qe 21 1 14,Qm 6 20,Qm 7 21] [2,3,4,6,7]) (qs (qR [Qm 22 7,Qr 23 22,Qm 24 23,qc 25 24 (fa 3 3),qc 26 24 (lm 25 25),qc 27 24 (.call (.f 67) [.t 26]),qc 28 24 (.not (.t 27)),Qq 29 24 28] [2,3,4,6,29] (.cond (.t 29) (qR [Ql 30 8 2,QS 8 4 30,Qi 5 1] [4,5] .ret) .skip)) (qR [Ql 32 8 2,Qa 33 3 3,Qa 34 1 33,Qo 35 34,Q2 36 185 32 35,Qm 31 36,Qe 37 0 31,Qe 38 1 31,qa 8 (.alloc 25 Zd6),QS 3 8 37,Qm 9 38] [2,3,4,6,8,9] (qs (qR [Qm 39 9,Qu 40 .neq 39 0] [2,3,4,6,8,9,40] (.cond (.t 40) (qR [Ql 41 8 2,Qm 42 9,QS 8 4 41,Qm 5 42] [4,5] .ret) .skip)) (qR [Ql 44 8 2,Ql 45 3 8,Q2 46 111 44 45,Qm 43 46,Qe 47 0 43,Qe 48 1 43,QU 10 29,QS 8 10 47,Qm 11 48] [2,3,4,6,8,10] (qs (qR [Ql 49 3 8,Qa 50 0 2,Ql 51 3 50,qa 52 (.eqs true [1,1,1] (.t 49) (.t 51)),Qm 53 52,qc 54 53 (fa 3 3),qc 55 53 (fa 0 54),qc 56 53 (lo 55),qc 57 53 (.bin .eql (.t 56) (qi 0)),Qq 58 53 57] [2,3,4,6,10,58] (.cond (.t 58) (qR [Qm 59 6,Ql 60 8 2,Ql 61 8 10,Ql 62 28 3,qa 63 (.call (.t 59) [.t 60,.t 61,.t 62]),Qe 64 0 63,Qe 65 1 63,QS 8 4 64,Qm 5 65] [4,5] .ret) .skip)) (qs (qR [Qa 66 3 3,Qa 67 0 66,Qo 68 67,Qu 69 .eql 68 6] [2,3,4,69] (.cond (.t 69) (qR [Ql 71 8 2,Qa 72 3 3,Qa 73 2 72,Qo 74 73,Q2 75 185 71 74,Qm 70 75,Qe 76 0 70,Qe 77 1 70,qa 12 (.alloc 25 Zd6),QS 3 12 76,Qm 13 77] [2,4,13] (qR [Qm 78 13,Qu 79 .neq 78 0] [2,4,13,79] (.cond (.t 79) (qR [Ql 80 8 2,Qm 81 13,QS 8 4 80,Qm 5 81] [4,5] .ret) .skip))) .skip)) (qR [Ql 82 8 2,QS 8 4 82,Qi 5 9] [4,5] .ret))))))))
theorem c124:FB 124 [2000002,2000003]=some (r124,s124):=by kernel_rfl
def r148:RL:=[(4,none)]
def s148:SCode:=qR [Qz 4] [0,1] (qR [Qz 5] [0,1,5] (qs (qR [Qm 7 1,Qn 8 7,Qu 9 .eql 8 0] [0,1,5,9] (.cond (.t 9) (qR [Qz 4] [4] .ret) .skip)) (qs (qR [Qi 6 0] [0,1,5,6] (qs (.block 0 (.loop (qs (qR [Qm 10 6,Qm 11 1,Qn 12 11,Qv 13 .add 10 12,Qm 14 0,Qn 15 14,Qv 16 .leq 13 15] [0,1,5,6,16] (qX 16)) (qs (.block 1 (qs (qR [Qm 17 0,Qm 18 6,Qm 19 6,Qm 20 1,Qn 21 20,Qv 22 .add 19 21,qa 23 (.slice 1 (.t 17) (some (.t 18)) (some (.t 22))),Qm 24 1,Q2 25 88 23 24,Qr 26 25] [0,1,5,6,26] (.cond (.t 26) (qR [Qm 27 6,Qu 28 .add 27 1,Qm 6 28] [0,1,5,6] (.exit 1)) .skip)) (qR [Qm 29 5,Qm 30 6,qa 31 (.buildS 3 1 1 [.int .i64 0] [(0,.t 30)]),Qw 32 3 1 8 29 31,Qm 5 32] [0,1,5,6] (qr [Qm 33 6,Qm 34 1,Qn 35 34,Qv 36 .add 33 35,Qm 6 36] [0,1,5,6])))) (qr [] [0,1,5,6]))))) (qr [] [5]))) (qR [Qm 37 5,Qm 4 37] [4] .ret))))
theorem c148:FB 148 []=some (r148,s148):=by kernel_rfl
def r184:RL:=[(0,none)]
def s184:SCode:=qR [qa 0 (.mov (.c (.sc (.map none))))] [] (qR [qa 1 (.raw (.makeMap 204 none)),⟨none,none,.raw (.insert 204 (.tmp 1) (.const (.int .i64 0)) (.func 230))⟩,⟨none,none,.raw (.insert 204 (.tmp 1) (.const (.int .i64 1)) (.func 231))⟩,⟨none,none,.raw (.insert 204 (.tmp 1) (.const (.int .i64 2)) (.func 232))⟩,⟨none,none,.raw (.insert 204 (.tmp 1) (.const (.int .i64 3)) (.func 233))⟩,⟨none,none,.raw (.insert 204 (.tmp 1) (.const (.int .i64 4)) (.func 234))⟩,⟨none,none,.raw (.insert 204 (.tmp 1) (.const (.int .i64 5)) (.func 235))⟩,⟨none,none,.raw (.insert 204 (.tmp 1) (.const (.int .i64 6)) (.func 236))⟩,Qm 2 1,Qm 0 2] [0] .ret)
theorem c184:FB 184 []=some (r184,s184):=by kernel_rfl
def r232:RL:=[(6,some (true,8)),(7,none)]
def s232:SCode:=qR [Qb 3 8 0,Qb 4 8 1,Qb 5 28 2,QU 6 29,Qi 7 0] [3,4,5,6] (qR [Qa 11 6 4,Qo 12 11,Qa 13 3 5,Qa 14 13 13,Qo 15 14,Qa 16 3 5,Qa 17 14 16,Qo 18 17,Qa 19 3 5,Qa 20 4 19,Qo 21 20,Qa 22 0 5,Qo 23 22,Qa 24 1 5,Qo 25 24,Q6 26 280 12 15 18 21 23 25,Qm 10 26,Qe 27 0 10,Qe 28 1 10,qa 8 (.alloc 26 [.nil]),QS 1 8 27,Qm 9 28] [3,4,6,8,9] (qs (qR [Qm 29 9,Qu 30 .neq 29 0] [3,4,6,8,9,30] (.cond (.t 30) (qR [Ql 31 8 3,Qm 32 9,QS 8 6 31,Qm 7 32] [6,7] .ret) .skip)) (qR [Ql 33 8 3,Qa 34 0 4,Ql 35 3 34,qa 36 (.mkfun (.func 281) [] [.t 8]),Q3 37 276 33 35 36,QS 8 6 37,Qi 7 0] [6,7] .ret)))
theorem c232:FB 232 [2000003,2000004,2000005]=some (r232,s232):=by kernel_rfl
def r235:RL:=[(6,some (true,8)),(7,none)]
def s235:SCode:=qR [Qb 3 8 0,QB 4 29 8 1,QB 5 159 28 2,QU 6 29,Qi 7 0] [3,4,5,6] (qR [Ql 14 8 3,Qa 15 0 4,Ql 16 3 15,Q2 17 286 14 16,Qm 13 17,Qe 18 0 13,Qe 19 1 13,Qe 20 2 13,qa 8 (.alloc 25 Zd6),QS 3 8 18,Qm 9 19,Qm 10 20] [3,4,5,6,8] (qR [Ql 22 8 3,Ql 23 3 8,Q2 24 111 22 23,Qm 21 24,Qe 25 0 21,Qe 26 1 21,QU 11 29,QS 8 11 25,Qm 12 26] [3,4,5,6,11] (qR [Qa 27 3 5,Qa 28 15 27,Qo 29 28,Qa 30 4 4,QS 1 30 29] [3,4,5,6,11] (qs (qR [Ql 31 8 11,Ql 32 8 4,Q2 33 272 31 32,Qu 34 .eql 33 10] [3,4,5,6,34] (.cond (.t 34) (qR [Ql 35 8 3,QS 8 6 35,Qi 7 10] [6,7] .ret) .skip)) (qR [Ql 36 8 3,Qa 37 0 4,Ql 38 3 37,qa 39 (.mkfun (.func 287) [] [.t 5]),Q3 40 276 36 38 39,QS 8 6 40,Qi 7 0] [6,7] .ret)))))
theorem c235:FB 235 [2000003]=some (r235,s235):=by kernel_rfl
def r271:RL:=[(6,some (true,8))]
def s271:SCode:=qR [Qb 3 8 0,QU 6 29] [1,2,3,6] (qR [Qm 8 1,Qm 9 2,qa 10 (.build Zd9 [(0,(1,.t 8)),(1,(1,.t 9))]),qa 7 (.alloc 346 Zd9),QS 4 7 10] [3,6,7] (qR [Ql 11 8 3,Q2 12 325 7 11,QS 8 6 12] [6] .ret))
theorem c271:FB 271 [2000003]=some (r271,s271):=by kernel_rfl
def r274:RL:=[(4,none)]
def s274:SCode:=qR [Qf 4] [0,1] (qR [Qm 5 0,Qm 6 1,Q2 7 329 5 6,Qu 8 .geq 7 0,Qm 4 8] [4] .ret)
theorem c274:FB 274 []=some (r274,s274):=by kernel_rfl
def r277:RL:=[]
def s277:SCode:=.drawT (.step (Qm 4 0) (.step (Qm 5 0) (.step (Qc 6 5) (.step (Qa 7 7 6) (.both (.step (Qo 8 7) (.both (.step (Qo 9 1) (.step (Ql 10 8 2) Zd29)) (.step (Ql 10 8 2) Zd17))) (.both (.step (Qo 9 1) (.both (.step (Qo 8 7) (.step (Ql 10 8 2) Zd29)) (.step (Ql 10 8 2) Zd18))) (.step (Ql 10 8 2) (.both (.step (Qo 8 7) Zd17) (.both (.step (Qo 9 1) Zd18) (.step Zd8 (.both (.step (Qo 8 7) (.step (Qo 9 1) Zd2)) (.step (Qo 9 1) (.step (Qo 8 7) Zd2))))))))))))) []
theorem c277:FB 277 []=some (r277,s277):=by kernel_rfl
def r280:RL:=[(12,none),(13,none)]
def s280:SCode:=qR [Qz 12,Qi 13 0] [0,1,2,3,4,5] (qs (qR [Qm 15 1,Qn 16 15,Qu 17 .eql 16 0,Qm 18 17,Ym 19 18 3,qc 20 18 (.bin .lss (.t 19) (qi 0)),Qq 21 18 20] [0,1,2,3,4,5,21] (.cond (.t 21) (qR [Qz 12,Qi 13 1] [12,13] .ret) .skip)) (qR [Qm 22 0,Qm 23 1,Qm 24 3,Q3 25 335 22 23 24,Qm 14 25] [0,1,2,4,5,14] (qs (qR [Qm 26 14,Qn 27 26,Qu 28 .eql 27 0] [0,1,2,4,5,14,28] (.cond (.t 28) (qR [Qz 12,Qi 13 4] [12,13] .ret) .skip)) (qR [Qm 29 0,Qm 30 14,Qm 31 1,Qn 32 31,Qm 33 2,Qm 34 4,Qm 35 5,Q6 36 336 29 30 32 33 34 35,Qe 37 0 36,Qe 38 1 36,Qm 12 37,Qm 13 38] [12,13] .ret))))
theorem c280:FB 280 []=some (r280,s280):=by kernel_rfl
def r283:RL:=[]
def s283:SCode:=qr [Qm 3 0,Qo 4 1,Qc 5 3,Qa 6 6 5,QS 1 6 4] []
theorem c283:FB 283 []=some (r283,s283):=by kernel_rfl
def r286:RL:=[(4,some (true,3)),(5,none),(6,none)]
def s286:SCode:=qR [Qb 2 8 0,QB 3 25 3 1,qa 4 (.alloc 25 Zd6),Qi 5 0,Qf 6] [2,3,4] (qR [Ql 10 8 2,Ql 11 3 3,Q2 12 144 10 11,Qm 7 12] [3,4,7] (qs (qR [Qm 13 7,Qn 14 13,Qu 15 .lss 14 2] [3,4,7,15] (.cond (.t 15) (qR [qa 16 (.build Zd6 []),QS 3 4 16,Qi 5 (-1),Qf 6] [4,5,6] .ret) .skip)) (qR [Qm 17 7,Qm 18 7,Qn 19 18,Qu 20 .sub 19 2,Qx 21 8 17 20,Ql 22 8 21,QU 8 29,QS 8 8 22] [3,4,8] (qR [Qa 23 7 8,Qo 24 23,qa 25 (.mkfun (.func 339) [] [.t 3]),Q2 26 338 24 25,Qm 9 26] [4,8,9] (qR [Qa 27 0 8,Ql 28 3 27,Qm 29 9,QS 3 4 28,Qm 5 29,Qt 6] [4,5,6] .ret)))))
theorem c286:FB 286 [2000002]=some (r286,s286):=by kernel_rfl
def r289:RL:=[(4,none)]
def s289:SCode:=qR [Qb 2 8 0,QB 3 56 1 1,Qz 4] [2,3] (qs (qR [Qo 13 3,Q1 14 117 13,Qr 15 14] [2,3,15] (.cond (.t 15) (qR [Qz 4] [4] .ret) .skip)) (qR [qa 5 (.alloc 27 [.nil])] [2,3,5] (qs (qs (.block 0 (qR [Qo 20 3,Qn 21 20,Qu 22 .eql 21 0,Qm 19 22] [2,3,5,19] (.cond (.t 19) (qR [Ql 23 8 2,qa 24 (.buildS 29 8 1 zU [(0,.t 23)]),Qm 4 24] [4] .ret) (qR [Qo 26 3,qa 27 (.indexA 2 (.t 26) (qi 0)),Ql 28 2 27,Q1 29 174 28,Qm 25 29] [2,3,5,25] (.cond (.t 25) (qr [Ql 30 8 2,qa 31 (.buildS 29 8 1 zU [(0,.t 30)]),QS 1 5 31] [3,5]) (qr [Ql 16 8 2,qa 17 (.mkfun (.func 341) [] [.t 3,.t 5]),Q2 18 340 16 17] [3,5])))))) (qr [] [3,5])) (qs (qR [Qo 32 3,qa 33 (.slice 2 (.t 32) (some (qi 1)) none),Qn 34 33,Qi 35 0] [5,33,34,35] (qs (.block 1 (.loop (qR [Qv 36 .lss 35 34] [5,33,34,35,36] (qs (.cond (.t 36) .skip (.exit 1)) (qs (qs (.block 2 (qR [Qx 37 2 33 35,Ql 38 2 37,qa 7 (.alloc 128 [.int .i64 0,.str []]),QS 2 7 38] [5,7,33,34,35] (qR [Qz 8] [5,7,8,33,34,35] (qs (qR [Qo 39 5,Qn 40 39,Qi 41 0] [5,7,8,33,34,35,39,40,41] (qs (.block 3 (.loop (qR [Qv 42 .lss 41 40] [5,7,8,33,34,35,39,40,41,42] (qs (.cond (.t 42) .skip (.exit 3)) (qs (qs (.block 4 (qR [Qx 43 8 39 41,Ql 44 8 43,QU 10 29,QS 8 10 44] [5,7,8,10,33,34,35,39,40,41] (qR [Qa 45 7 10,Qo 46 45,Qn 47 46,Qi 48 0] [5,7,8,33,34,35,39,40,41,46,47,48] (qs (.block 5 (.loop (qR [Qv 49 .lss 48 47] [5,7,8,33,34,35,39,40,41,46,47,48,49] (qs (.cond (.t 49) .skip (.exit 5)) (qs (qs (.block 6 (qR [Qx 50 8 46 48,Ql 51 8 50,QU 12 29,QS 8 12 51] [5,7,8,12,33,34,35,39,40,41,46,47,48] (qR [Ql 52 8 12,Ql 53 2 7,Q2 54 342 52 53] [5,7,8,12,33,34,35,39,40,41,46,47,48,54] (.cond (.t 54) (qr [Qm 55 8,Ql 56 8 12,qa 57 (.buildS 29 8 1 zU [(0,.t 56)]),Qw 58 29 8 120 55 57,Qm 8 58] [5,7,8,33,34,35,39,40,41,46,47,48]) .skip)))) (qr [] [5,7,8,33,34,35,39,40,41,46,47,48])) (qr [Qu 59 .add 48 1,Qm 48 59] [5,7,8,33,34,35,39,40,41,46,47,48])))))) (qr [] [5,7,8,33,34,35,39,40,41]))))) (qr [] [5,7,8,33,34,35,39,40,41])) (qr [Qu 60 .add 41 1,Qm 41 60] [5,7,8,33,34,35,39,40,41])))))) (qr [] [5,8,33,34,35]))) (qr [Qm 61 8,QS 1 5 61] [5,33,34,35]))))) (qr [] [5,33,34,35])) (qr [Qu 62 .add 35 1,Qm 35 62] [5,33,34,35])))))) (qr [] [5]))) (qR [Qo 63 5,Qm 4 63] [4] .ret)))))
theorem c289:FB 289 [2000002]=some (r289,s289):=by kernel_rfl
def r322:RL:=[(6,some (true,3)),(7,none),(8,none)]
def s322:SCode:=qR [Qb 3 8 0,qa 6 (.alloc 25 Zd6),Qi 7 0,Qi 8 0] [1,2,3,6] (qs (qR [Qm 12 2,Q1 13 323 12,Qr 14 13] [1,2,3,6,14] (.cond (.t 14) (qR [qa 15 (.build Zd6 []),QS 3 6 15,Qi 7 0,Qi 8 1] [6,7,8] .ret) .skip)) (qR [Ql 17 8 3,Qm 18 1,Q2 19 185 17 18,Qm 16 19,Qe 20 0 16,Qe 21 1 16,qa 9 (.alloc 25 Zd6),QS 3 9 20,Qm 10 21] [2,3,6,9,10] (qs (qR [Qm 22 10,Qu 23 .neq 22 0] [2,3,6,9,10,23] (.cond (.t 23) (qR [qa 24 (.build Zd6 []),Qm 25 10,QS 3 6 24,Qi 7 0,Qm 8 25] [6,7,8] .ret) .skip)) (qs (.drawT (.step (Qm 28 2) (.step (Qs 30 8 3) (.both (.step (Q0 27 363) (.both (.step Zd5 (.both (.step (Ql 31 3 9) Zd7) (.step Zd4 (.step (Ql 31 3 9) Zd0)))) (.both (.step (Ql 31 3 9) Zd27) (.step Zd4 Zd15)))) (.both (.step (Ql 31 3 9) (.both (.step (Q0 27 363) Zd27) (.step Zd4 (.step (Q0 27 363) Zd30)))) (.step Zd4 (.both (.step (Q0 27 363) Zd15) (.step (Ql 31 3 9) (.step (Q0 27 363) Zd30)))))))) [6,10,11]) (qs (qR [Qm 35 10,Qu 36 .neq 35 0] [6,10,11,36] (.cond (.t 36) (qR [qa 37 (.build Zd6 []),Qm 38 10,QS 3 6 37,Qi 7 0,Qm 8 38] [6,7,8] .ret) .skip)) (qs (.drawT (.step (Qa 39 0 11) (.step (Qa 41 3 11) (.both (.step (Ql 40 3 39) (.both (.step (Qo 42 41) (.step (QS 3 6 40) Zd16)) (.step (QS 3 6 40) (.step (Qo 42 41) Zd16)))) (.step (Qo 42 41) (.step (Ql 40 3 39) (.step (QS 3 6 40) Zd16)))))) [6,7,8]) .ret))))))
theorem c322:FB 322 [2000003]=some (r322,s322):=by kernel_rfl
def r325:RL:=[(4,some (true,8))]
def s325:SCode:=qR [QB 3 29 8 1,QU 4 29] [0,3,4] (qR [Qm 7 0,Qc 8 7,Qa 9 2 8,Qo 10 9,Qu 11 .add 10 1,Qc 12 7,Qa 13 2 12,QS 1 13 11] [0,3,4] (qs (.drawT (.step (Qm 14 0) (.step (Qc 15 14) (.step (Qa 16 0 15) (.step (Qm 18 0) (.step (Qc 19 18) (.step (Qa 20 1 19) (.step (Qm 22 0) (.step (Qc 23 22) (.step (Qa 24 2 23) (.both (.step (Qo 17 16) (.both (.step (Qo 21 20) (.step (Qo 25 24) Zd3)) (.step (Qo 25 24) (.step (Qo 21 20) Zd3)))) (.both (.step (Qo 21 20) (.both (.step (Qo 17 16) (.step (Qo 25 24) Zd3)) (.step (Qo 25 24) (.step (Qo 17 16) Zd3)))) (.step (Qo 25 24) (.both (.step (Qo 17 16) (.step (Qo 21 20) Zd3)) (.step (Qo 21 20) (.step (Qo 17 16) Zd3))))))))))))))) [0,3,4]) (qR [Qm 28 0,Qa 29 5 3,Qo 30 29,Q2 31 364 28 30,Qa 32 5 3,QS 1 32 31] [0,3,4] (qR [Qm 33 0,Qa 34 6 3,Qo 35 34,Q2 36 364 33 35,Qa 37 6 3,QS 1 37 36] [0,3,4] (qR [Qa 38 7 3,Qo 39 38,Qn 40 39,qa 41 (.raw (.makeSlice 27 (.tmp 40) (.tmp 40))),Qm 5 41] [0,3,4,5] (qR [Qm 42 5,Qa 43 7 3,Qo 44 43,qa 45 (.raw (.call (.mk (.builtin .copy) #[.tmp 42,.tmp 44] #[27,27])))] [0,3,4,5] (qs (qR [Qm 46 5,Qn 47 46,Qi 48 0] [0,3,4,5,47,48] (qs (.block 0 (.loop (qR [Qv 49 .lss 48 47] [0,3,4,5,47,48,49] (qs (qX 49) (qs (qs (.block 1 (qR [Qm 50 48,Qm 6 50] [0,3,4,5,6,47,48] (qr [Qm 51 5,Qm 52 6,Qm 53 0,Qm 54 5,Qm 55 6,Qx 56 8 54 55,Ql 57 8 56,Q2 58 325 53 57,Qx 59 8 51 52,QS 8 59 58] [0,3,4,5,47,48]))) (qr [] [0,3,4,5,47,48])) (qr [Qu 60 .add 48 1,Qm 48 60] [0,3,4,5,47,48])))))) (qr [] [3,4,5]))) (qR [Qm 61 5,Qa 62 7 3,QS 1 62 61] [3,4] (qR [Ql 63 8 3,QS 8 4 63] [4] .ret)))))))))
theorem c325:FB 325 []=some (r325,s325):=by kernel_rfl
def r328:RL:=[(4,none)]
def s328:SCode:=qR [Qb 2 8 0,Qb 3 3 1,Qz 4] [2,3] (qR [Qz 5] [2,3,5] (qR [Ql 8 8 2,Ql 9 3 3,Q2 10 144 8 9,Qm 6 10] [5,6] (qs (qR [Qm 11 6,Qn 12 11,Qu 13 .sub 12 2,Qm 7 13] [5,6,7] (qs (.block 0 (.loop (qs (qR [Qm 14 7,Qu 15 .geq 14 0] [5,6,7,15] (qX 15)) (qs (qs (.block 1 (qr [Qm 18 5,Qm 19 6,Qm 20 7,Qx 21 8 19 20,Qa 22 0 21,Ql 23 3 22,qa 24 (.buildS 25 3 1 Zd6 [(0,.t 23)]),Qw 25 25 3 24 18 24,Qm 5 25] [5,6,7])) (qr [] [5,6,7])) (qr [Qm 16 7,Qu 17 .sub 16 1,Qm 7 17] [5,6,7]))))) (qr [] [5]))) (qR [Qm 26 5,Qm 4 26] [4] .ret))))
theorem c328:FB 328 [2000002,2000003]=some (r328,s328):=by kernel_rfl
def r334:RL:=[(6,none)]
def s334:SCode:=qR [Qz 6] [0,1,2] (qR [Qm 8 0,Qm 9 1,Qm 10 2,Qm 11 0,Qn 12 11,qa 13 (.raw (.slice 27 (.tmp 8) (some (.tmp 9)) (some (.tmp 10)) (some (.tmp 12))))] [0,1,2] (qs (qR [Qm 14 1,Qm 15 2,Qv 16 .eql 14 15] [0,1,2,16] (.cond (.t 16) (qR [Qm 17 0,Qm 6 17] [6] .ret) .skip)) (qR [Qm 18 0,Qn 19 18,Qm 7 19] [0,1,2,7] (qs (.drawT (.step (Qm 20 0) (.step (Qm 21 1) (.step (Qm 23 0) (.step (Qm 24 2) (.both (.step Zd20 (.step Zd19 Zd10)) (.step Zd19 (.step Zd20 Zd10))))))) [0,7]) (qR [Qm 27 0,Qm 28 0,Qn 29 28,Qm 30 7,qa 31 (.raw (.slice 27 (.tmp 27) (some (.tmp 29)) (some (.tmp 30)) none)),⟨none,none,.raw (.call (.mk (.builtin .clear) #[.tmp 31] #[27]))⟩] [0] (qR [Qm 32 0,Qm 6 32] [6] .ret))))))
theorem c334:FB 334 [3000022,3000025,3000026,3000031]=some (r334,s334):=by kernel_rfl
def r337:RL:=[(2,none)]
def s337:SCode:=qR [Qz 2] [0] (qs (qR [Qm 3 0,qa 4 (.eqnil 0 false (.t 3))] [0,4] (.cond (.t 4) (qR [Qz 2] [2] .ret) .skip)) (qR [qa 5 (.raw (.buildSlice 131 0 #[])),Qm 6 0,qa 7 (.raw (.call (.mk (.builtin .append) #[.tmp 5,.tmp 6] #[131,131]))),Qm 2 7] [2] .ret))
theorem c337:FB 337 [3000005,3000007]=some (r337,s337):=by kernel_rfl
def r340:RL:=[]
def s340:SCode:=qR [Qb 2 8 0] [1,2] (qR [Qm 6 1,Ql 7 8 2,qa 8 (.call (.t 6) [.t 7])] [1,2] (qR [Qa 9 7 2,Qo 10 9,Qn 11 10,Qi 12 0] [1,10,11,12] (qs (.block 0 (.loop (qR [Qv 13 .lss 12 11] [1,10,11,12,13] (qs (qX 13) (qs (qs (.block 1 (qR [Qx 14 8 10 12,Ql 15 8 14,QU 5 29,QS 8 5 15] [1,5,10,11,12] (qr [Ql 16 8 5,Qm 17 1,Q2 18 340 16 17] [1,10,11,12]))) (qr [] [1,10,11,12])) (qr [Qu 19 .add 12 1,Qm 12 19] [1,10,11,12])))))) (qr [] []))))
theorem c340:FB 340 [2000002]=some (r340,s340):=by kernel_rfl
def r364:RL:=[(4,none)]
def s364:SCode:=qR [Qz 4] [0,1] (qs (.drawT (.step (Qm 6 1) (.step (Qm 8 0) (.step (Qc 9 8) (.step (Qa 10 0 9) (.step (Qm 12 0) (.step (Qc 13 12) (.step (Qa 14 1 13) (.step (Qm 16 0) (.step (Qc 17 16) (.step (Qa 18 3 17) (.both (.step (Q1 7 366 6) (.both (.step (Qo 11 10) Zd24) (.both (.step (Qo 15 14) Zd26) (.step (Qo 19 18) Zd25)))) (.both (.step (Qo 11 10) (.both (.step (Q1 7 366 6) Zd24) (.both (.step (Qo 15 14) Zd23) (.step (Qo 19 18) Zd22)))) (.both (.step (Qo 15 14) (.both (.step (Q1 7 366 6) Zd26) (.both (.step (Qo 11 10) Zd23) (.step (Qo 19 18) Zd21)))) (.step (Qo 19 18) (.both (.step (Q1 7 366 6) Zd25) (.both (.step (Qo 11 10) Zd22) (.step (Qo 15 14) Zd21))))))))))))))))) [0,5]) (qR [Qm 21 0,Qc 22 21,Qa 23 3 22,Qo 24 23,Qm 25 5,Qn 26 25,Qv 27 .add 24 26,Qc 28 21,Qa 29 3 28,QS 1 29 27] [5] (qR [Qm 30 5,Qm 4 30] [4] .ret)))
theorem c364:FB 364 []=some (r364,s364):=by kernel_rfl
def r379:RL:=[(6,some (true,4)),(7,none)]
def s379:SCode:=qR [Qb 3 8 0,Qb 4 3 1,qa 6 (.alloc 342 Zd9),Qi 7 0] [2,3,4,6] (qR [Ql 11 8 3,Ql 12 3 4,Q2 13 111 11 12,Qm 10 13,Qe 14 0 10,Qe 15 1 10,QU 8 29,QS 8 8 14,Qm 9 15] [2,4,6,8] (qs (.drawL [Qs 16 3 4,Qm 17 2,Qa 18 7 8,Qo 19 18,Qn 20 19,qa 21 (.call (.t 17) [.t 20]),qa 22 (.build Zd9 [(0,(3,.t 16)),(3,(1,.t 21))]),QS 4 6 22,Qi 7 0] [6,7]) .ret))
theorem c379:FB 379 [2000003,2000004]=some (r379,s379):=by kernel_rfl
def r382:RL:=[(2,none)]
def s382:SCode:=qR [Qi 2 0] [0] (qR [Qm 3 0,Qm 2 3] [2] .ret)
theorem c382:FB 382 []=some (r382,s382):=by kernel_rfl
def r385:RL:=[(4,some (true,4)),(5,none)]
def s385:SCode:=qR [Qb 2 8 0,Qb 3 3 1,qa 4 (.alloc 342 Zd9),Qi 5 0] [2,3,4] (qR [Ql 6 8 2,Ql 7 3 3,qa 8 (.call (.f 384) [.t 6,.t 7,qi 0]),Qe 9 0 8,Qe 10 1 8,QS 4 4 9,Qm 5 10] [4,5] .ret)
theorem c385:FB 385 [2000002,2000003]=some (r385,s385):=by kernel_rfl
end Go.Av
