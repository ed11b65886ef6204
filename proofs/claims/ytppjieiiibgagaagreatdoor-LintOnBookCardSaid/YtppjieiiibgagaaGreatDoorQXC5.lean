/-
  THE TRANSLATED CODE. Printed by mkcode2.py.
-/
import Derived.Test.YtppjieiiibgagaaGreatDoorQXDattoXCS
import Derived.Test.YtppjieiiibgagaaGreatDoorQXAv26toXGlob
import Derived.Test.YtppjieiiibgagaaGreatDoorProg
set_option linter.all false
namespace Go.Av
open Go List
abbrev Ze5:SOper:=qa 29 (.raw (.index 285 (.tmp 27) (.tmp 28)))
abbrev Ze29:DT:=.step (QS 4 11 33) (.step (Qm 10 34) .done)
abbrev Ze0:DT:=.step (qa 32 (.call (.t 29) [.t 30,.t 31])) (.step (Qm 26 32) (.step (Qe 33 0 26) (.step (Qe 34 1 26) Ze29)))
abbrev Ze36:DT:=.step Ze5 Ze0
abbrev Ze8:SOper:=qa 11 (.buildS 27 8 1 zU [(0,.t 10)])
abbrev Ze1:DT:=.step (Q3 12 217 8 9 11) (.step (Qc 13 4) (.step (Qa 14 7 13) (.step (QS 1 14 12) .done)))
abbrev Ze35:DT:=.step Ze8 Ze1
abbrev Ze34:List AV:=[.str [],.i 0,.i 0,.i 0]
abbrev Ze10:List AV:=[.i 0,.i 0,.i 0,.i 0]
abbrev Ze33:List SOper:=[Qb 2 8 0,Qb 3 3 1,qa 4 (.alloc 249 Ze10),Qi 5 0]
abbrev Ze32:SCode:=qR [Qi 4 (-1)] [4] .ret
abbrev Ze31:DT:=.step (QS 8 7 29) (.step (Qm 8 30) .done)
abbrev Ze30:List SOper:=[Qm 14 6,Qa 15 7 2,Qo 16 15,Qn 17 16,Qv 18 .lss 14 17]
abbrev Ze28:SOper:=Qu 10 .add 9 1
abbrev Ze27:SCode:=.cond (.t 16) (qR [Qm 17 0,Qm 6 17] [6] .ret) .skip
abbrev Ze26:SCode:=.cond (.t 16) (qR [Qm 17 5,Qm 4 17] [4] .ret) .skip
abbrev Ze3:SOper:=qa 11 (.alloc 249 Ze10)
abbrev Ze7:DT:=.both (.step (qa 32 (.call (.t 29) [.t 30,.t 31])) (.step (Qm 26 32) (.step (Qe 33 0 26) (.step (Qe 34 1 26) (.step Ze3 Ze29))))) (.step Ze3 Ze0)
abbrev Ze25:DT:=.both (.step Ze5 Ze7) (.step Ze3 Ze36)
abbrev Ze24:SOper:=qa 22 (.raw (.slice 25 (.tmp 20) none (some (.tmp 21)) none))
abbrev Ze23:SOper:=qa 25 (.raw (.slice 25 (.tmp 23) (some (.tmp 24)) none none))
abbrev Ze22:SOper:=qa 50 (.raw (.slice 25 (.tmp 46) (some (.tmp 49)) none none))
abbrev Ze21:SOper:=qa 53 (.raw (.slice 25 (.tmp 51) (some (.tmp 52)) none none))
abbrev Ze20:SOper:=qa 73 (.raw (.slice 25 (.tmp 69) (some (.tmp 72)) none none))
abbrev Ze19:SOper:=qa 76 (.raw (.slice 25 (.tmp 74) (some (.tmp 75)) none none))
abbrev Ze18:DT:=.both (.step (Qo 8 7) Ze35) (.step Ze8 (.step (Qo 8 7) Ze1))
abbrev Ze17:DT:=.both (.step (Qo 9 1) Ze35) (.step Ze8 (.step (Qo 9 1) Ze1))
abbrev Ze16:DT:=.step (Qm 7 42) (.step (Qi 8 0) .done)
abbrev Ze15:DT:=.both (.step Ze5 (.step (Ql 31 3 9) Ze0)) (.step (Ql 31 3 9) Ze36)
abbrev Ze14:DT:=.step (qa 54 (.raw (.call (.mk (.builtin .copy) #[.tmp 50,.tmp 53] #[25,25])))) .done
abbrev Ze13:DT:=.step (qa 77 (.raw (.call (.mk (.builtin .copy) #[.tmp 73,.tmp 76] #[25,25])))) .done
abbrev Ze12:DT:=.step (qa 26 (.raw (.call (.mk (.builtin .append) #[.tmp 22,.tmp 25] #[25,25])))) (.step (Qm 0 26) .done)
abbrev Ze11:DT:=.step (Q2 28 82 26 27) (.step (Qm 21 28) (.step (Qe 29 0 21) (.step (Qe 30 1 21) Ze31)))
abbrev Ze9:List AV:=[.i 0,.i 0,.i 0,.i 0,.nil,.nil,.i 0,.i 0,.i 0,.i 0,.i 0,.i 0,.str [],.nil,.nil,.nil,.nil,.nil,.str [],.str [],.i 0,.i 0,.str [],.i 0,.i 0,.i 0,.str [],.nil]
abbrev Ze6:List AV:=[.i 0,.i 0,.i 0]
abbrev Ze4:DT:=.step (Q3 11 277 7 8 10) (.step (Qc 12 3) (.step (Qa 13 7 12) (.step (QS 1 13 11) .done)))
abbrev Ze2:DT:=.step (qa 26 (.build Ze6 [(0,(1,.t 17)),(1,(1,.t 21)),(2,(1,.t 25))])) (.step (Qa 27 0 3) (.step (QS 3 27 26) .done))
def r4:RL:=[(4,none)]
def s4:SCode:=qR [Qb 2 8 0,Qb 3 7 1,Qf 4] [2,3] (qs (qR [Ql 6 8 2,Ql 7 7 3,Q2 8 10 6 7,Qr 9 8] [2,3,9] (.cond (.t 9) (qR [Q0 10 11,Qm 4 10] [4] .ret) .skip)) (qR [Ql 11 8 2,Ql 12 7 3,Q2 13 12 11 12,Qm 5 13] [2,3,5] (qR [Ql 14 8 2,Ql 15 7 3,Q2 16 14 14 15,Qm 17 5,Q2 18 13 16 17,Qm 19 18,qb 20 19 (lm 8 2),qb 21 19 (lm 7 3),qb 22 19 (.call (.f 15) [.t 20,.t 21]),Bm 23 19 5,qb 24 19 (.len (.t 23)),qb 25 19 (.bin .eql (.t 24) (qi 0)),Bm 26 19 25,qb 27 26 (lm 7 3),qb 28 26 (.call (.f 16) [.t 27]),qb 29 26 (.len (.t 28)),qb 30 26 (.bin .eql (.t 29) (qi 0)),qb 31 19 (.pick (.t 26) (.t 30) qf),qb 32 19 (.eqb false (.t 22) (.t 31)),Qp 33 19 32,Qm 34 33,qb 35 34 (.call (.f 11) []),Qp 36 34 35,Qm 4 36] [4] .ret)))
def c4:FB 4 [2000002,2000003]=some (r4,s4):=by kernel_rfl
def r10:RL:=[(4,none)]
def s10:SCode:=qR [Qb 2 8 0,Qb 3 7 1,Qf 4] [2,3] (qs (.drawL [Qs 5 8 2,qa 6 (.call (.f 17) [.t 5,qi 30]),Qm 7 6,qb 8 7 (.loadF true 8 (.t 2)),qb 9 7 (.call (.f 18) [.t 8]),Qp 10 7 9,Qm 11 10,qb 12 11 (.loadF true 7 (.t 3)),qb 13 11 (.call (.f 37) [.t 12]),Qp 14 11 13,Qm 15 14,qb 16 15 (.loadF true 8 (.t 2)),qb 17 15 (.loadF true 7 (.t 3)),qb 18 15 (.call (.f 38) [.t 17]),qb 19 15 (.call (.f 20) [.t 16,.t 18]),Qp 20 15 19,Qm 4 20] [4]) .ret)
def c10:FB 10 [2000002,2000003]=some (r10,s10):=by kernel_rfl
def r25:RL:=[(4,some (true,8)),(5,none)]
def s25:SCode:=qR [Qb 2 8 0,Qb 3 28 1,QU 4 27,Qi 5 0] [2,3,4] (qs (.drawL [Qa 16 3 3,Qa 17 0 16,qa 18 (.loadF false 1 (.t 17)),Q0 15 59,qa 19 (.raw (.lookup 109 (.tmp 15) (.tmp 18) true)),Qm 14 19,Qe 20 0 14,Qe 21 1 14,Qm 6 20,Qm 7 21] [2,3,4,6,7]) (qs (qR [Qm 22 7,Qr 23 22,Qm 24 23,qc 25 24 (fa 3 3),qc 26 24 (lm 25 25),qc 27 24 (.call (.f 60) [.t 26]),qc 28 24 (.not (.t 27)),Qq 29 24 28] [2,3,4,6,29] (.cond (.t 29) (qR [Ql 30 8 2,QS 8 4 30,Qi 5 1] [4,5] .ret) .skip)) (qR [Ql 32 8 2,Qa 33 3 3,Qa 34 1 33,Qo 35 34,Q2 36 26 32 35,Qm 31 36,Qe 37 0 31,Qe 38 1 31,qa 8 (.alloc 23 Ze6),QS 3 8 37,Qm 9 38] [2,3,4,6,8,9] (qs (qR [Qm 39 9,Qu 40 .neq 39 0] [2,3,4,6,8,9,40] (.cond (.t 40) (qR [Ql 41 8 2,Qm 42 9,QS 8 4 41,Qm 5 42] [4,5] .ret) .skip)) (qR [Ql 44 8 2,Ql 45 3 8,Q2 46 27 44 45,Qm 43 46,Qe 47 0 43,Qe 48 1 43,QU 10 27,QS 8 10 47,Qm 11 48] [2,3,4,6,8,10] (qs (qR [Ql 49 3 8,Qa 50 0 2,Ql 51 3 50,qa 52 (.eqs true [1,1,1] (.t 49) (.t 51)),Qm 53 52,qc 54 53 (fa 3 3),qc 55 53 (fa 0 54),qc 56 53 (lo 55),qc 57 53 (.bin .eql (.t 56) (qi 0)),Qq 58 53 57] [2,3,4,6,10,58] (.cond (.t 58) (qR [Qm 59 6,Ql 60 8 2,Ql 61 8 10,Ql 62 28 3,qa 63 (.call (.t 59) [.t 60,.t 61,.t 62]),Qe 64 0 63,Qe 65 1 63,QS 8 4 64,Qm 5 65] [4,5] .ret) .skip)) (qs (qR [Qa 66 3 3,Qa 67 0 66,Qo 68 67,Qu 69 .eql 68 6] [2,3,4,69] (.cond (.t 69) (qR [Ql 71 8 2,Qa 72 3 3,Qa 73 2 72,Qo 74 73,Q2 75 26 71 74,Qm 70 75,Qe 76 0 70,Qe 77 1 70,qa 12 (.alloc 23 Ze6),QS 3 12 76,Qm 13 77] [2,4,13] (qR [Qm 78 13,Qu 79 .neq 78 0] [2,4,13,79] (.cond (.t 79) (qR [Ql 80 8 2,Qm 81 13,QS 8 4 80,Qm 5 81] [4,5] .ret) .skip))) .skip)) (qR [Ql 82 8 2,QS 8 4 82,Qi 5 9] [4,5] .ret))))))))
def c25:FB 25 [2000002,2000003]=some (r25,s25):=by kernel_rfl
def r31:RL:=[(4,some (true,8)),(5,none)]
def s31:SCode:=qR [Qb 2 8 0,Qb 3 28 1,QU 4 27,Qi 5 0] [2,3,4] (qs (qR [Qa 15 3 3,Qa 16 0 15,Qo 17 16,Q1 18 29 17,Qr 19 18,Qm 20 19,qc 21 20 (fa 3 3),qc 22 20 (lm 25 21),qc 23 20 (.call (.f 30) [.t 22]),qc 24 20 (.not (.t 23)),Qq 25 20 24] [2,3,4,25] (.cond (.t 25) (qR [Ql 26 8 2,QS 8 4 26,Qi 5 1] [4,5] .ret) .skip)) (qR [Ql 28 8 2,Qa 29 3 3,Qa 30 1 29,Qo 31 30,Q2 32 32 28 31,Qm 27 32,Qe 33 0 27,Qe 34 1 27,qa 6 (.alloc 23 Ze6),QS 3 6 33,Qm 7 34] [2,3,4,6,7] (qs (qR [Qm 35 7,Qu 36 .neq 35 0] [2,3,4,6,7,36] (.cond (.t 36) (qR [Ql 37 8 2,Qm 38 7,QS 8 4 37,Qm 5 38] [4,5] .ret) .skip)) (qs (qR [Qa 39 3 3,Qa 40 0 39,Qo 41 40,Qu 42 .eql 41 0] [2,3,4,6,42] (.cond (.t 42) (qR [Ql 43 8 2,Ql 44 3 6,Ql 45 28 3,Q3 46 80 43 44 45,Qe 47 0 46,Qe 48 1 46,QS 8 4 47,Qm 5 48] [4,5] .ret) .skip)) (qs (qR [Qa 49 3 3,Qa 50 0 49,Qo 51 50,Qu 52 .eql 51 6] [2,3,4,6,52] (.cond (.t 52) (qR [Ql 53 8 2,Ql 54 3 6,Ql 55 28 3,Q3 56 81 53 54 55,Qe 57 0 56,Qe 58 1 56,QS 8 4 57,Qm 5 58] [4,5] .ret) .skip)) (qs (qR [Ql 59 3 6,Qa 60 0 2,Ql 61 3 60,qa 62 (.eqs false [1,1,1] (.t 59) (.t 61))] [2,3,4,6,62] (.cond (.t 62) (qR [Ql 63 8 2,QS 8 4 63,Qi 5 9] [4,5] .ret) .skip)) (qR [Ql 65 8 2,Ql 66 3 6,Q2 67 82 65 66,Qm 64 67,Qe 68 0 64,Qe 69 1 64,QU 8 27,QS 8 8 68,Qm 9 69] [2,3,4,6,8] (qR [Ql 71 8 2,Ql 72 3 6,Q2 73 83 71 72,Qm 70 73,Qe 74 0 70,Qe 75 1 70,Qe 76 2 70,QU 10 27,QS 8 10 74,Qm 11 75,Qm 12 76] [2,3,4,8,10,12] (qs (qR [Qa 77 3 3,Qa 78 0 77,Qo 79 78] [2,3,4,8,10,12,79] (qs (.block 0 (qR [Qu 81 .eql 79 1,Qm 80 81] [2,3,4,8,10,12,79,80] (.cond (.t 80) (qR [Qa 82 7 10,Qo 83 82,Qm 84 12,Q2 85 84 83 84,Qa 86 7 10,QS 1 86 85] [2,4,10] (qR [Ql 87 8 2,Ql 88 8 10,Q2 89 85 87 88,QS 8 4 89,Qi 5 0] [4,5] .ret)) (qs (qR [Qu 91 .eql 79 2,Qm 90 91] [2,3,4,8,10,79,90] (.cond (.t 90) .skip (qr [Qu 92 .eql 79 3,Qm 90 92] [2,3,4,8,10,79,90]))) (.cond (.t 90) (qR [Qa 94 6 8,Qo 95 94,Qa 96 3 3,Ql 97 25 96,Qa 98 0 3,Qo 99 98,Qa 100 1 3,Qo 101 100,Q4 102 86 95 97 99 101,Qm 93 102,Qe 103 0 93,Qe 104 1 93,Qm 13 103,Qm 14 104] [2,4,8,13,14] (qs (qR [Qm 105 14,Qu 106 .neq 105 0] [2,4,8,13,14,106] (.cond (.t 106) (qR [Ql 107 8 2,Qm 108 14,QS 8 4 107,Qm 5 108] [4,5] .ret) .skip)) (qr [Qm 109 13,Qa 110 6 8,QS 1 110 109] [2,4,8]))) (qR [Qu 112 .eql 79 4,Qm 111 112] [2,3,4,8,10,79,111] (.cond (.t 111) (qr [Qa 113 3 3,Qa 114 14 113,Qo 115 114,Qa 116 0 3,Qo 117 116,Qa 118 1 3,Qo 119 118,qa 120 (.call (.f 87) [.t 115,.t 117,.t 119,qi 0]),Qa 121 5 8,QS 1 121 120] [2,4,8]) (qR [Qu 123 .eql 79 5,Qm 122 123] [2,3,4,8,10,122] (.cond (.t 122) (qs (qR [Qa 124 7 10,Qo 125 124,Qa 126 3 8,Qo 127 126,Qa 128 3 3,Qa 129 15 128,Qo 130 129,Q3 131 88 125 127 130] [2,3,4,8,131] (.cond (.t 131) (qR [Ql 132 8 2,QS 8 4 132,Qi 5 10] [4,5] .ret) .skip)) (qr [Qa 133 3 3,Qa 134 15 133,Qo 135 134,Qa 136 4 8,QS 1 136 135] [2,4,8])) .skip))))))))) (qr [] [2,4,8]))) (qR [Ql 137 8 2,Ql 138 8 8,Q2 139 85 137 138,QS 8 4 139,Qi 5 0] [4,5] .ret))))))))))
def c31:FB 31 [2000002,2000003]=some (r31,s31):=by kernel_rfl
def r43:RL:=[(4,some (true,8)),(5,none)]
def s43:SCode:=qR [Qb 2 8 0,Qb 3 7 1,QU 4 27,Qz 5] [2,3,4] (qR [Qz 6] [2,3,4,6] (qs (qR [Qa 9 6 3,Qo 10 9,Qn 11 10,Qi 12 0] [2,3,4,6,10,11,12] (qs (.block 0 (.loop (qR [Qv 13 .lss 12 11] [2,3,4,6,10,11,12,13] (qs (qX 13) (qs (qs (.block 1 (qR [Qm 14 12,Qx 15 25 10 12,Ql 16 25 15,qa 8 (.alloc 34 zItm),Qm 7 14,QS 25 8 16] [2,3,4,6,7,8,10,11,12] (qr [Qm 17 6,Qa 18 0 3,Qo 19 18,Qm 20 7,Qa 21 2 3,Qo 22 21,Ql 23 25 8,qa 24 (.build Ze9 [(0,(1,.t 19)),(1,(1,.t 20)),(2,(1,.t 22)),(3,(25,.t 23))]),qa 25 (.buildS 36 28 1 Ze9 [(0,.t 24)]),Qw 26 36 28 392 17 25,Qm 6 26] [2,3,4,6,10,11,12]))) (qr [] [2,3,4,6,10,11,12])) (qr [Qu 27 .add 12 1,Qm 12 27] [2,3,4,6,10,11,12])))))) (qr [] [2,4,6]))) (qR [Ql 28 8 2,Qm 29 6,Q2 30 96 28 29,Qe 31 0 30,Qe 32 1 30,QS 8 4 31,Qm 5 32] [4,5] .ret)))
def c43:FB 43 [2000002,2000003]=some (r43,s43):=by kernel_rfl
def r61:RL:=[(4,none)]
def s61:SCode:=qR [Qb 2 8 0,Qz 4] [1,2] (qR [Qz 5] [1,2,5] (qs (qR [Ql 8 8 2,Qm 9 1,Q2 10 134 8 9,Qn 11 10,Qi 12 0] [5,10,11,12] (qs (.block 0 (.loop (qR [Qv 13 .lss 12 11] [5,10,11,12,13] (qs (qX 13) (qs (qs (.block 1 (qR [Qx 14 8 10 12,Ql 15 8 14,QU 7 27,QS 8 7 15] [5,7,10,11,12] (qr [Qm 16 5,Qa 17 0 7,Ql 18 3 17,qa 19 (.buildS 23 3 1 Ze6 [(0,.t 18)]),Qw 20 23 3 24 16 19,Qm 5 20] [5,10,11,12]))) (qr [] [5,10,11,12])) (qr [Qu 21 .add 12 1,Qm 12 21] [5,10,11,12])))))) (qr [] [5]))) (qR [Qm 22 5,Qm 4 22] [4] .ret)))
def c61:FB 61 [2000002]=some (r61,s61):=by kernel_rfl
def r82:RL:=[(4,some (true,8)),(5,none)]
def s82:SCode:=qR [Qb 2 8 0,Qb 3 3 1,QU 4 27,Qi 5 0] [2,3,4] (qs (qR [Qa 9 0 2,Ql 10 3 9,Ql 11 3 3,qa 12 (.eqs false [1,1,1] (.t 10) (.t 11))] [2,3,4,12] (.cond (.t 12) (qR [Ql 13 8 2,QS 8 4 13,Qi 5 0] [4,5] .ret) .skip)) (qs (qR [Qi 6 0] [2,3,4,6] (qs (.block 0 (.loop (qs (qR Ze30 [2,3,4,6,18] (qX 18)) (qs (qs (.block 1 (qs (.drawT (.step (Qa 22 7 2) (.step (qa 23 (.loadF false 1 (.t 22))) (.step (Qm 24 6) (.step (Qx 25 8 23 24) (.step (Qs 27 3 3) (.both (.step (Ql 26 8 25) (.both (.step (Q2 28 82 26 27) (.step (Qm 21 28) (.step (Qe 29 0 21) (.step (Qe 30 1 21) (.step (QU 7 27) Ze31))))) (.step (QU 7 27) Ze11))) (.step (QU 7 27) (.step (Ql 26 8 25) Ze11)))))))) [2,3,4,6,7,8]) (qR [Qm 31 8,Qu 32 .geq 31 0] [2,3,4,6,7,8,32] (.cond (.t 32) (qR [Ql 33 8 7,Qm 34 8,Qu 35 .add 34 1,QS 8 4 33,Qm 5 35] [4,5] .ret) .skip)))) (qr [] [2,3,4,6])) (qr [Qm 19 6,Qu 20 .add 19 1,Qm 6 20] [2,3,4,6]))))) (qr [] [4]))) (qR [QA 36,QS 8 4 36,Qi 5 (-1)] [4,5] .ret)))
def c82:FB 82 [2000002,2000003]=some (r82,s82):=by kernel_rfl
def r85:RL:=[(4,some (true,8))]
def s85:SCode:=qR [QB 2 27 8 0,Qb 3 8 1,QU 4 27] [2,3,4] (qs (qR [Qa 7 0 2,Ql 8 3 7,Qa 9 0 3,Ql 10 3 9,qa 11 (.eqs false [1,1,1] (.t 8) (.t 10))] [2,3,4,11] (.cond (.t 11) (qR [Ql 12 8 3,QS 8 4 12] [4] .ret) .skip)) (qR [qa 13 (.buildS 27 8 0 [] []),Qm 5 13] [2,3,4,5] (qs (qR [Qi 6 0] [2,3,4,5,6] (qs (.block 0 (.loop (qs (qR Ze30 [2,3,4,5,6,18] (qX 18)) (qs (qs (.block 1 (.drawL [Qm 21 5,Qa 22 7 2,Qm 24 6,Qs 27 8 3,Qo 23 22,Qx 25 8 23 24,Ql 26 8 25,Q2 28 85 26 27,qa 29 (.buildS 27 8 1 zU [(0,.t 28)]),Qw 30 27 8 120 21 29,Qm 5 30] [2,3,4,5,6])) (qr [] [2,3,4,5,6])) (qr [Qm 19 6,Qu 20 .add 19 1,Qm 6 20] [2,3,4,5,6]))))) (qr [] [2,4,5]))) (qR [Qm 31 5,Qa 32 7 2,QS 1 32 31] [2,4] (qR [Ql 33 8 2,QS 8 4 33] [4] .ret)))))
def c85:FB 85 [2000003]=some (r85,s85):=by kernel_rfl
def r88:RL:=[(6,none)]
def s88:SCode:=qR [Qf 6] [0,1,2] (qs (qR [Qi 7 0] [0,1,2,7] (qs (.block 0 (.loop (qs (qR [Qm 8 7,Qm 9 0,Qn 10 9,Qv 11 .lss 8 10] [0,1,2,7,11] (qX 11)) (qs (qs (.block 1 (qR [Qm 14 0,Qm 15 7,Qx 16 8 14 15,Qa 17 3 16,Qo 18 17,Qm 19 1,Qv 20 .eql 18 19,Qm 21 20,Bm 22 21 0,Bm 23 21 7,qb 24 21 (.indexA 8 (.t 22) (.t 23)),qb 25 21 (fa 4 24),qb 26 21 (lo 25),Bm 27 21 2,qb 28 21 (.bin .eql (.t 26) (.t 27)),Qp 29 21 28] [0,1,2,7,29] (.cond (.t 29) (qR [Qt 6] [6] .ret) .skip))) (qr [] [0,1,2,7])) (qr [Qm 12 7,Qu 13 .add 12 1,Qm 7 13] [0,1,2,7]))))) (qr [] []))) (qR [Qf 6] [6] .ret))
def c88:FB 88 []=some (r88,s88):=by kernel_rfl
def r124:RL:=[(6,some (true,8)),(7,none)]
def s124:SCode:=qR [Qb 3 8 0,Qb 4 8 1,Qb 5 28 2,QU 6 27,Qi 7 0] [3,4,6] (qR [Ql 8 8 3,Qa 9 0 4,Ql 10 3 9,Q2 11 218 8 10,QS 8 6 11,Qi 7 0] [6,7] .ret)
def c124:FB 124 [2000003,2000004,2000005]=some (r124,s124):=by kernel_rfl
def r127:RL:=[(6,some (true,8)),(7,none)]
def s127:SCode:=qR [Qb 3 8 0,Qb 4 8 1,Qb 5 28 2,QU 6 27,Qi 7 0] [3,4,5,6] (qR [Qa 9 3 5,Qa 10 14 9,Qo 11 10,Qa 12 0 5,Qo 13 12,Qa 14 1 5,Qo 15 14,qa 16 (.call (.f 223) [.t 11,.t 13,.t 15,qi 0]),qa 8 (.alloc 24 [.nil]),QS 1 8 16] [3,4,6,8] (qR [Ql 17 8 3,Qa 18 0 4,Ql 19 3 18,qa 20 (.mkfun (.func 224) [] [.t 8]),Q3 21 215 17 19 20,QS 8 6 21,Qi 7 0] [6,7] .ret))
def c127:FB 127 [2000003,2000004,2000005]=some (r127,s127):=by kernel_rfl
def r142:RL:=[(6,some (true,8))]
def s142:SCode:=qR [Qb 3 8 0,QU 6 27] [1,2,3,6] (qR [Ql 11 8 3,Qm 12 1,Qm 13 2,qa 14 (.call (.f 262) [.t 11,.t 12,.t 13,qi 1,qi 0]),Qm 10 14,Qe 15 0 10,Qe 16 1 10,Qe 17 2 10,QU 7 27,QS 8 7 15,Qm 8 16,Qm 9 17] [6,7] (qR [Ql 18 8 7,QS 8 6 18] [6] .ret))
def c142:FB 142 [2000003]=some (r142,s142):=by kernel_rfl
def r148:RL:=[(4,none)]
def s148:SCode:=qR [Qb 3 3 1,Qi 4 0] [0,3] (qs (qR [Qi 5 0] [0,3,5] (qs (.block 0 (.loop (qs (qR [Qm 6 5,Qm 7 0,Qn 8 7,Qv 9 .lss 6 8] [0,3,5,9] (qX 9)) (qs (qs (.block 1 (qs (.drawL [Qm 12 0,Qm 13 5,Qx 14 8 12 13,Qa 15 0 14,Qs 17 3 3,Ql 16 3 15,qa 18 (.eqs false [1,1,1] (.t 16) (.t 17))] [0,3,5,18]) (.cond (.t 18) (qR [Qm 19 5,Qm 4 19] [4] .ret) .skip))) (qr [] [0,3,5])) (qr [Qm 10 5,Qu 11 .add 10 1,Qm 5 11] [0,3,5]))))) (qr [] []))) Ze32)
def c148:FB 148 [2000003]=some (r148,s148):=by kernel_rfl
def r208:RL:=[(4,none)]
def s208:SCode:=qR [Qb 2 8 0,QB 3 27 8 1,Qi 4 0] [2,3] (qs (qR [Qa 5 3 2,Qo 6 5,Qa 7 3 3,Qo 8 7,Q2 9 156 6 8,Qr 10 9] [2,3,10] (.cond (.t 10) (qR [Qi 4 9] [4] .ret) .skip)) (qs (qR [Qa 11 7 2,Qo 12 11,qa 13 (.mkfun (.func 305) [] [.t 3]),Q2 14 289 12 13] [14] (.cond (.t 14) (qR [Qi 4 10] [4] .ret) .skip)) (qR [Qi 4 0] [4] .ret)))
def c208:FB 208 [2000002]=some (r208,s208):=by kernel_rfl
def r214:RL:=[(4,none)]
def s214:SCode:=qR [Qb 3 3 1,Qf 4] [0,3] (qR [Qm 5 0,Ql 6 3 3,Q2 7 310 5 6,Qu 8 .geq 7 0,Qm 4 8] [4] .ret)
def c214:FB 214 [2000003]=some (r214,s214):=by kernel_rfl
def r217:RL:=[(6,none)]
def s217:SCode:=qR [Qz 6] [0,1,2] (qR [Qm 10 0,Qm 11 1,qa 12 (.raw (.slice 25 (.tmp 10) (some (.tmp 11)) none none))] [0,1,2] (qR [Qm 13 2,Qn 14 13,Qm 7 14] [0,1,2,7] (qs (qR [Qm 15 7,Qu 16 .eql 15 0] [0,1,2,7,16] Ze27) (qR [Qm 18 0,Qn 19 18,Qm 8 19] [0,1,2,7,8] (qs (qR [Qm 20 1,Qm 21 8,Qv 22 .eql 20 21] [0,1,2,7,8,22] (.cond (.t 22) (qR [Qm 23 0,Qm 24 2,qa 25 (.raw (.call (.mk (.builtin .append) #[.tmp 23,.tmp 24] #[25,25]))),Qm 6 25] [6] .ret) .skip)) (qs (qR [Qm 26 8,Qm 27 7,Qv 28 .add 26 27,Qm 29 0,qa 30 (.raw (.call (.mk (.builtin .cap) #[.tmp 29] #[25]))),Qv 31 .gtr 28 30] [0,1,2,7,8,31] (.cond (.t 31) (qR [Qm 32 0,Qm 33 1,qa 34 (.raw (.slice 25 (.tmp 32) none (some (.tmp 33)) none)),Qm 35 8,Qm 36 7,Qv 37 .add 35 36,Qm 38 1,Qv 39 .sub 37 38,qa 40 (.raw (.call (.mk (.builtin .append) #[.tmp 34,.tmp 39] #[25,3]))),Qm 9 40] [0,1,2,7,9] (qR [Qm 41 9,Qm 42 1,qa 43 (.raw (.slice 25 (.tmp 41) (some (.tmp 42)) none none)),Qm 44 2,qa 45 (.raw (.call (.mk (.builtin .copy) #[.tmp 43,.tmp 44] #[25,25])))] [0,1,7,9] (qs (.drawT (.step (Qm 46 9) (.step (Qm 47 1) (.step (Qm 48 7) (.step (Qv 49 .add 47 48) (.step (Qm 51 0) (.step (Qm 52 1) (.both (.step Ze22 (.step Ze21 Ze14)) (.step Ze21 (.step Ze22 Ze14))))))))) [9]) (qR [Qm 55 9,Qm 6 55] [6] .ret)))) .skip)) (qR [Qm 56 0,Qm 57 8,Qm 58 7,Qv 59 .add 57 58,qa 60 (.raw (.slice 25 (.tmp 56) none (some (.tmp 59)) none)),Qm 0 60] [0,1,2,7,8] (qs (qR [Qm 61 2,Qm 62 0,Qm 63 1,Qm 64 7,Qv 65 .add 63 64,qa 66 (.raw (.slice 25 (.tmp 62) (some (.tmp 65)) none none)),Q2 67 311 61 66,Qr 68 67] [0,1,2,7,8,68] (.cond (.t 68) (qs (.drawT (.step (Qm 69 0) (.step (Qm 70 1) (.step (Qm 71 7) (.step (Qv 72 .add 70 71) (.step (Qm 74 0) (.step (Qm 75 1) (.both (.step Ze20 (.step Ze19 Ze13)) (.step Ze19 (.step Ze20 Ze13))))))))) [0,1,2]) (qR [Qm 78 0,Qm 79 1,qa 80 (.raw (.slice 25 (.tmp 78) (some (.tmp 79)) none none)),Qm 81 2,qa 82 (.raw (.call (.mk (.builtin .copy) #[.tmp 80,.tmp 81] #[25,25])))] [0] (qR [Qm 83 0,Qm 6 83] [6] .ret))) .skip)) (qR [Qm 84 0,Qm 85 8,qa 86 (.raw (.slice 25 (.tmp 84) (some (.tmp 85)) none none)),Qm 87 2,qa 88 (.raw (.call (.mk (.builtin .copy) #[.tmp 86,.tmp 87] #[25,25])))] [0,1,7] (qR [Qm 89 0,Qm 90 1,qa 91 (.raw (.slice 25 (.tmp 89) (some (.tmp 90)) none none)),Qm 92 7,Q2 93 312 91 92] [0] (qR [Qm 94 0,Qm 6 94] [6] .ret)))))))))))
def c217:FB 217 [3000012,3000025,3000034,3000043,3000050,3000053,3000060,3000066,3000073,3000076,3000080,3000086,3000091]=some (r217,s217):=by kernel_rfl
def r220:RL:=[]
def s220:SCode:=qr [Qm 3 0,Qo 4 1,Qc 5 3,Qa 6 6 5,QS 1 6 4] []
def c220:FB 220 []=some (r220,s220):=by kernel_rfl
def r223:RL:=[(8,none)]
def s223:SCode:=qR [Qz 8] [0,1,2,3] (qR [Qz 9] [0,1,2,3,9] (qs (qR [Qm 12 0,Qn 13 12,Qi 14 0] [1,2,3,9,12,13,14] (qs (.block 0 (.loop (qR [Qv 15 .lss 14 13] [1,2,3,9,12,13,14,15] (qs (qX 15) (qs (qs (.block 1 (qR [Qm 16 14,Qx 17 1 12 14,Qo 18 17,Qm 10 16,Qm 11 18] [1,2,3,9,10,11,12,13,14] (qr [Qm 19 9,Qm 20 11,Qm 21 1,Qm 22 2,Qm 23 3,Qm 24 10,Qv 25 .add 23 24,qa 26 (.build Ze6 [(0,(1,.t 21)),(1,(1,.t 22)),(2,(1,.t 25))]),qa 27 (.build Ze34 [(0,(1,.t 20)),(1,(3,.t 26))]),qa 28 (.buildS 118 4 1 Ze34 [(0,.t 27)]),Qw 29 118 4 40 19 28,Qm 9 29] [1,2,3,9,12,13,14]))) (qr [] [1,2,3,9,12,13,14])) (qr [Qu 30 .add 14 1,Qm 14 30] [1,2,3,9,12,13,14])))))) (qr [] [9]))) (qR [Qm 31 9,Qm 8 31] [8] .ret)))
def c223:FB 223 []=some (r223,s223):=by kernel_rfl
def r226:RL:=[]
def s226:SCode:=.drawT (.step (Qm 4 0) (.step (Qm 5 0) (.step (Qc 6 5) (.step (Qa 7 7 6) (.both (.step (Qo 8 7) (.both (.step (Qo 9 1) (.step (Ql 10 8 2) Ze35)) (.step (Ql 10 8 2) Ze17))) (.both (.step (Qo 9 1) (.both (.step (Qo 8 7) (.step (Ql 10 8 2) Ze35)) (.step (Ql 10 8 2) Ze18))) (.step (Ql 10 8 2) (.both (.step (Qo 8 7) Ze17) (.both (.step (Qo 9 1) Ze18) (.step Ze8 (.both (.step (Qo 8 7) (.step (Qo 9 1) Ze1)) (.step (Qo 9 1) (.step (Qo 8 7) Ze1))))))))))))) []
def c226:FB 226 []=some (r226,s226):=by kernel_rfl
def r253:RL:=[]
def s253:SCode:=qR [Qb 2 8 0] [1,2] (qR [Qm 6 1,Ql 7 8 2,qa 8 (.call (.t 6) [.t 7])] [1,2] (qR [Qa 9 7 2,Qo 10 9,Qn 11 10,Qi 12 0] [1,10,11,12] (qs (.block 0 (.loop (qR [Qv 13 .lss 12 11] [1,10,11,12,13] (qs (qX 13) (qs (qs (.block 1 (qR [Qx 14 8 10 12,Ql 15 8 14,QU 5 27,QS 8 5 15] [1,5,10,11,12] (qr [Ql 16 8 5,Qm 17 1,Q2 18 253 16 17] [1,10,11,12]))) (qr [] [1,10,11,12])) (qr [Qu 19 .add 12 1,Qm 12 19] [1,10,11,12])))))) (qr [] []))))
def c253:FB 253 [2000002]=some (r253,s253):=by kernel_rfl
def r256:RL:=[(4,none)]
def s256:SCode:=qR [Qi 4 0] [0,1] (qs (qR [Qm 6 0,Qn 7 6,Qi 8 0] [0,1,7,8] (qs (.block 0 (.loop (qR [Qv 9 .lss 8 7] [0,1,7,8,9] (qs (qX 9) (qs (qs (.block 1 (qR [Qm 10 8,Qm 5 10] [0,1,5,7,8] (qR [Qm 11 1,Qm 12 0,Qm 13 5,Qx 14 8 12 13,Ql 15 8 14,qa 16 (.call (.t 11) [.t 15])] [0,1,5,7,8,16] Ze26))) (qr [] [0,1,7,8])) (qr [Qu 18 .add 8 1,Qm 8 18] [0,1,7,8])))))) (qr [] []))) Ze32)
def c256:FB 256 []=some (r256,s256):=by kernel_rfl
def r262:RL:=[(10,some (true,8)),(11,none),(12,none)]
def s262:SCode:=qR [QB 5 27 8 0,QU 10 27,Qi 11 0,Qi 12 0] [1,2,3,4,5,10] (qR [Qm 16 1,Qm 17 2,Qm 18 3,qa 19 (.build Ze6 [(0,(1,.t 16)),(1,(1,.t 17)),(2,(1,.t 18))]),Qa 20 0 5,QS 3 20 19] [1,2,3,4,5,10] (qR [Qm 21 3,Qu 22 .add 21 1,Qm 3 22] [1,2,3,4,5,10] (qR [Qa 23 5 5,Qo 24 23,Q1 25 328 24,Qm 26 1,Qm 27 2,Qm 28 4,Q4 29 87 25 26 27 28,Qa 30 5 5,QS 1 30 29] [1,2,3,4,5,10] (qR [Qm 31 4,Qa 32 5 5,Qo 33 32,Qn 34 33,Qv 35 .add 31 34,Qm 4 35] [1,2,3,4,5,10] (qR [Qa 36 6 5,Qo 37 36,Q1 38 328 37,Qm 39 1,Qm 40 2,Qm 41 4,Q4 42 87 38 39 40 41,Qa 43 6 5,QS 1 43 42] [1,2,3,4,5,10] (qR [Qm 44 4,Qa 45 6 5,Qo 46 45,Qn 47 46,Qv 48 .add 44 47,Qm 4 48] [1,2,3,4,5,10] (qR [qa 49 (.buildS 27 8 0 [] []),Qm 13 49] [1,2,3,4,5,10,13] (qs (qR [Qi 14 0] [1,2,3,4,5,10,13,14] (qs (.block 0 (.loop (qs (qR [Qm 50 14,Qa 51 7 5,Qo 52 51,Qn 53 52,Qv 54 .lss 50 53] [1,2,3,4,5,10,13,14,54] (qX 54)) (qs (qs (.block 1 (qR [QA 57,QU 15 27,QS 8 15 57] [1,2,3,4,5,10,13,14,15] (qR [Qa 59 7 5,Qo 60 59,Qm 61 14,Qx 62 8 60 61,Ql 63 8 62,Qm 64 1,Qm 65 2,Qm 66 3,Qm 67 4,Q5 68 262 63 64 65 66 67,Qm 58 68,Qe 69 0 58,Qe 70 1 58,Qe 71 2 58,QS 8 15 69,Qm 3 70,Qm 4 71] [1,2,3,4,5,10,13,14,15] (qr [Qm 72 13,Ql 73 8 15,qa 74 (.buildS 27 8 1 zU [(0,.t 73)]),Qw 75 27 8 120 72 74,Qm 13 75] [1,2,3,4,5,10,13,14])))) (qr [] [1,2,3,4,5,10,13,14])) (qr [Qm 55 14,Qu 56 .add 55 1,Qm 14 56] [1,2,3,4,5,10,13,14]))))) (qr [] [3,4,5,10,13]))) (qR [Qm 76 13,Qa 77 7 5,QS 1 77 76] [3,4,5,10] (qR [Ql 78 8 5,Qm 79 3,Qm 80 4,QS 8 10 78,Qm 11 79,Qm 12 80] [10,11,12] .ret))))))))))
def c262:FB 262 []=some (r262,s262):=by kernel_rfl
def r277:RL:=[(6,none)]
def s277:SCode:=qR [Qz 6] [0,1,2] (qR [Qm 8 0,Qm 9 1,Qm 10 2,Qm 11 0,Qn 12 11,qa 13 (.raw (.slice 25 (.tmp 8) (some (.tmp 9)) (some (.tmp 10)) (some (.tmp 12))))] [0,1,2] (qs (qR [Qm 14 1,Qm 15 2,Qv 16 .eql 14 15] [0,1,2,16] Ze27) (qR [Qm 18 0,Qn 19 18,Qm 7 19] [0,1,2,7] (qs (.drawT (.step (Qm 20 0) (.step (Qm 21 1) (.step (Qm 23 0) (.step (Qm 24 2) (.both (.step Ze24 (.step Ze23 Ze12)) (.step Ze23 (.step Ze24 Ze12))))))) [0,7]) (qR [Qm 27 0,Qm 28 0,Qn 29 28,Qm 30 7,qa 31 (.raw (.slice 25 (.tmp 27) (some (.tmp 29)) (some (.tmp 30)) none)),⟨none,none,.raw (.call (.mk (.builtin .clear) #[.tmp 31] #[25]))⟩] [0] (qR [Qm 32 0,Qm 6 32] [6] .ret))))))
def c277:FB 277 [3000022,3000025,3000026,3000031]=some (r277,s277):=by kernel_rfl
def r289:RL:=[(4,none)]
def s289:SCode:=qR [Qf 4] [0,1] (qR [Qm 5 0,Qm 6 1,Q2 7 256 5 6,Qu 8 .geq 7 0,Qm 4 8] [4] .ret)
def c289:FB 289 []=some (r289,s289):=by kernel_rfl
def r301:RL:=[(6,some (true,3)),(7,none),(8,none)]
def s301:SCode:=qR [Qb 3 8 0,qa 6 (.alloc 23 Ze6),Qi 7 0,Qi 8 0] [1,2,3,6] (qs (qR [Qm 12 2,Q1 13 302 12,Qr 14 13] [1,2,3,6,14] (.cond (.t 14) (qR [qa 15 (.build Ze6 []),QS 3 6 15,Qi 7 0,Qi 8 1] [6,7,8] .ret) .skip)) (qR [Ql 17 8 3,Qm 18 1,Q2 19 26 17 18,Qm 16 19,Qe 20 0 16,Qe 21 1 16,qa 9 (.alloc 23 Ze6),QS 3 9 20,Qm 10 21] [2,3,6,9,10] (qs (qR [Qm 22 10,Qu 23 .neq 22 0] [2,3,6,9,10,23] (.cond (.t 23) (qR [qa 24 (.build Ze6 []),Qm 25 10,QS 3 6 24,Qi 7 0,Qm 8 25] [6,7,8] .ret) .skip)) (qs (.drawT (.step (Qm 28 2) (.step (Qs 30 8 3) (.both (.step (Q0 27 347) (.both (.step Ze5 (.both (.step (Ql 31 3 9) Ze7) (.step Ze3 (.step (Ql 31 3 9) Ze0)))) (.both (.step (Ql 31 3 9) Ze25) (.step Ze3 Ze15)))) (.both (.step (Ql 31 3 9) (.both (.step (Q0 27 347) Ze25) (.step Ze3 (.step (Q0 27 347) Ze36)))) (.step Ze3 (.both (.step (Q0 27 347) Ze15) (.step (Ql 31 3 9) (.step (Q0 27 347) Ze36)))))))) [6,10,11]) (qs (qR [Qm 35 10,Qu 36 .neq 35 0] [6,10,11,36] (.cond (.t 36) (qR [qa 37 (.build Ze6 []),Qm 38 10,QS 3 6 37,Qi 7 0,Qm 8 38] [6,7,8] .ret) .skip)) (qs (.drawT (.step (Qa 39 0 11) (.step (Qa 41 3 11) (.both (.step (Ql 40 3 39) (.both (.step (Qo 42 41) (.step (QS 3 6 40) Ze16)) (.step (QS 3 6 40) (.step (Qo 42 41) Ze16)))) (.step (Qo 42 41) (.step (Ql 40 3 39) (.step (QS 3 6 40) Ze16)))))) [6,7,8]) .ret))))))
def c301:FB 301 [2000003]=some (r301,s301):=by kernel_rfl
def r304:RL:=[(4,some (true,8))]
def s304:SCode:=qR [QB 3 27 8 1,QU 4 27] [0,3,4] (qR [Qm 7 0,Qc 8 7,Qa 9 2 8,Qo 10 9,Qu 11 .add 10 1,Qc 12 7,Qa 13 2 12,QS 1 13 11] [0,3,4] (qs (.drawT (.step (Qm 14 0) (.step (Qc 15 14) (.step (Qa 16 0 15) (.step (Qm 18 0) (.step (Qc 19 18) (.step (Qa 20 1 19) (.step (Qm 22 0) (.step (Qc 23 22) (.step (Qa 24 2 23) (.both (.step (Qo 17 16) (.both (.step (Qo 21 20) (.step (Qo 25 24) Ze2)) (.step (Qo 25 24) (.step (Qo 21 20) Ze2)))) (.both (.step (Qo 21 20) (.both (.step (Qo 17 16) (.step (Qo 25 24) Ze2)) (.step (Qo 25 24) (.step (Qo 17 16) Ze2)))) (.step (Qo 25 24) (.both (.step (Qo 17 16) (.step (Qo 21 20) Ze2)) (.step (Qo 21 20) (.step (Qo 17 16) Ze2))))))))))))))) [0,3,4]) (qR [Qm 28 0,Qa 29 5 3,Qo 30 29,Q2 31 348 28 30,Qa 32 5 3,QS 1 32 31] [0,3,4] (qR [Qm 33 0,Qa 34 6 3,Qo 35 34,Q2 36 348 33 35,Qa 37 6 3,QS 1 37 36] [0,3,4] (qR [Qa 38 7 3,Qo 39 38,Qn 40 39,qa 41 (.raw (.makeSlice 25 (.tmp 40) (.tmp 40))),Qm 5 41] [0,3,4,5] (qR [Qm 42 5,Qa 43 7 3,Qo 44 43,qa 45 (.raw (.call (.mk (.builtin .copy) #[.tmp 42,.tmp 44] #[25,25])))] [0,3,4,5] (qs (qR [Qm 46 5,Qn 47 46,Qi 48 0] [0,3,4,5,47,48] (qs (.block 0 (.loop (qR [Qv 49 .lss 48 47] [0,3,4,5,47,48,49] (qs (qX 49) (qs (qs (.block 1 (qR [Qm 50 48,Qm 6 50] [0,3,4,5,6,47,48] (qr [Qm 51 5,Qm 52 6,Qm 53 0,Qm 54 5,Qm 55 6,Qx 56 8 54 55,Ql 57 8 56,Q2 58 304 53 57,Qx 59 8 51 52,QS 8 59 58] [0,3,4,5,47,48]))) (qr [] [0,3,4,5,47,48])) (qr [Qu 60 .add 48 1,Qm 48 60] [0,3,4,5,47,48])))))) (qr [] [3,4,5]))) (qR [Qm 61 5,Qa 62 7 3,QS 1 62 61] [3,4] (qR [Ql 63 8 3,QS 8 4 63] [4] .ret)))))))))
def c304:FB 304 []=some (r304,s304):=by kernel_rfl
def r310:RL:=[(4,none)]
def s310:SCode:=qR [Qb 3 3 1,Qi 4 0] [0,3] (qs (qR [Qm 6 0,Qn 7 6,Qi 8 0] [0,3,7,8] (qs (.block 0 (.loop (qR [Qv 9 .lss 8 7] [0,3,7,8,9] (qs (qX 9) (qs (qs (.block 1 (qR [Qm 10 8,Qm 5 10] [0,3,5,7,8] (qs (.drawL [Qs 11 3 3,Qm 12 0,Qm 13 5,Qx 14 3 12 13,Ql 15 3 14,qa 16 (.eqs false [1,1,1] (.t 11) (.t 15))] [0,3,5,7,8,16]) Ze26))) (qr [] [0,3,7,8])) (qr [Qu 18 .add 8 1,Qm 8 18] [0,3,7,8])))))) (qr [] []))) Ze32)
def c310:FB 310 [2000003]=some (r310,s310):=by kernel_rfl
def r313:RL:=[]
def s313:SCode:=.drawT (.step (Qm 3 0) (.step (Qm 4 0) (.step (Qc 5 4) (.step (Qa 6 7 5) (.both (.step (Qo 7 6) (.both (.step (Qo 8 1) (.step (Qo 9 1) (.step Ze28 Ze4))) (.step (Qo 9 1) (.step Ze28 (.step (Qo 8 1) Ze4))))) (.both (.step (Qo 8 1) (.both (.step (Qo 7 6) (.step (Qo 9 1) (.step Ze28 Ze4))) (.step (Qo 9 1) (.step Ze28 (.step (Qo 7 6) Ze4))))) (.step (Qo 9 1) (.step Ze28 (.both (.step (Qo 7 6) (.step (Qo 8 1) Ze4)) (.step (Qo 8 1) (.step (Qo 7 6) Ze4))))))))))) []
def c313:FB 313 []=some (r313,s313):=by kernel_rfl
def r316:RL:=[(2,none)]
def s316:SCode:=qR [Qz 2] [0] (qs (qR [Qm 3 0,qa 4 (.eqnil 0 false (.t 3))] [0,4] (.cond (.t 4) (qR [Qz 2] [2] .ret) .skip)) (qR [qa 5 (.raw (.buildSlice 185 0 #[])),Qm 6 0,qa 7 (.raw (.call (.mk (.builtin .append) #[.tmp 5,.tmp 6] #[185,185]))),Qm 2 7] [2] .ret))
def c316:FB 316 [3000005,3000007]=some (r316,s316):=by kernel_rfl
def r328:RL:=[(2,none)]
def s328:SCode:=qR [Qz 2] [0] (qR [qa 5 (.buildS 9 1 0 [] []),Qm 3 5] [0,3] (qs (qR [Qi 4 0] [0,3,4] (qs (.block 0 (.loop (qs (qR [Qm 6 4,Qm 7 0,Qn 8 7,Qv 9 .lss 6 8] [0,3,4,9] (qX 9)) (qs (qs (.block 1 (qr [Qm 12 3,Qm 13 0,Qm 14 4,Qx 15 4 13 14,Qa 16 0 15,Qo 17 16,qa 18 (.buildS 9 1 1 [.str []] [(0,.t 17)]),Qw 19 9 1 16 12 18,Qm 3 19] [0,3,4])) (qr [] [0,3,4])) (qr [Qm 10 4,Qu 11 .add 10 1,Qm 4 11] [0,3,4]))))) (qr [] [3]))) (qR [Qm 20 3,Qm 2 20] [2] .ret)))
def c328:FB 328 []=some (r328,s328):=by kernel_rfl
def r376:RL:=[(4,some (true,4)),(5,none)]
def s376:SCode:=qR Ze33 [2,3,4] (qR [Ql 6 8 2,Ql 7 3 3,qa 8 (.call (.f 377) [.t 6,.t 7,.f 378]),Qe 9 0 8,Qe 10 1 8,QS 4 4 9,Qm 5 10] [4,5] .ret)
def c376:FB 376 [2000002,2000003]=some (r376,s376):=by kernel_rfl
def r379:RL:=[(4,some (true,4)),(5,none)]
def s379:SCode:=qR Ze33 [2,3,4] (qR [Ql 6 8 2,Ql 7 3 3,qa 8 (.call (.f 377) [.t 6,.t 7,.f 380]),Qe 9 0 8,Qe 10 1 8,QS 4 4 9,Qm 5 10] [4,5] .ret)
def c379:FB 379 [2000002,2000003]=some (r379,s379):=by kernel_rfl
def r382:RL:=[(6,some (true,4)),(7,none)]
def s382:SCode:=qR [Qb 3 8 0,Qb 4 3 1,qa 6 (.alloc 249 Ze10),Qi 7 0] [2,3,4,6] (qR [Ql 12 8 3,Ql 13 3 4,Q2 14 135 12 13,Qm 11 14,Qe 15 0 11,Qe 16 1 11,Qe 17 2 11,qa 8 (.alloc 23 Ze6),QS 3 8 15,Qm 9 16,Qm 10 17] [2,6,8,9,10] (qs (qR [Qm 18 10,Qr 19 18] [2,6,8,9,19] (.cond (.t 19) (qR [qa 20 (.build Ze10 []),QS 4 6 20,Qi 7 9] [6,7] .ret) .skip)) (qR [Ql 21 3 8,Qm 22 9,Qm 23 2,Qv 24 .add 22 23,qa 25 (.build Ze10 [(0,(3,.t 21)),(3,(1,.t 24))]),QS 4 6 25,Qi 7 0] [6,7] .ret)))
def c382:FB 382 [2000003,2000004]=some (r382,s382):=by kernel_rfl
end Go.Av
