/-
  THE TRANSLATED CODE. Printed by mkcode2.py.
-/
import Derived.Test.YtppjieiiibgagaaGreatDoorQXDattoXCS
import Derived.Test.YtppjieiiibgagaaGreatDoorQXAv26toXGlob
import Derived.Test.YtppjieiiibgagaaGreatDoorProg
import Derived.Test.YtppjieiiibgagaaGreatDoorQXC1
import Derived.Test.YtppjieiiibgagaaGreatDoorQXC2
set_option linter.all false
namespace Go.Av
open Go List
abbrev Zc23:SCode:=qr [Qu 18 .add 8 1,Qm 8 18] [0,1,7,8]
abbrev Zc22:SCode:=.cond (.t 30) (qR [Qf 6] [6] .ret) .skip
abbrev Zc21:List SOper:=[qa 2 (.mov (.c (.str [])))]
abbrev Zc20:SOper:=qa 12 (.buildS 9 1 1 [.str []] [(0,.t 11)])
abbrev Zc19:SCode:=qr [Qu 31 .add 17 1,Qm 17 31] [1,2,15,16,17]
abbrev Zc18:SCode:=qR [Qm 16 1,Qu 17 .eql 16 2,Qm 4 17] [4] .ret
abbrev Zc17:List AV:=[.i 0,.str []]
abbrev Zc16:DT:=.step (Q2 67 35 61 66) (.step (Qr 68 67) .done)
abbrev Zc15:SCode:=.cond (.t 16) (qR [Qm 17 5,Qm 4 17] [4] .ret) .skip
abbrev Zc14:DT:=.step (Qw 13 9 1 16 8 12) (.step (QS 1 2 13) .done)
abbrev Zc13:DT:=.step (Q2 138 47 132 137) (.step (Qr 139 138) .done)
abbrev Zc12:List AV:=[.str [],.i 0,.i 0,.i 0]
abbrev Zc11:List SOper:=[Qb 1 8 0,Qf 2]
abbrev Zc10:SCode:=qr [Qm 10 4,Qu 11 .add 10 1,Qm 4 11] [0,3,4]
abbrev Zc9:SCode:=qR [Qt 2] [2] .ret
abbrev Zc8:DT:=.step Zc20 Zc14
abbrev Zc7:SCode:=qR [Qm 10 0,Qn 11 10,Qm 12 1,Qn 13 12,Qv 14 .neq 11 13] [0,1,2,14] (.cond (.t 14) (qR [Qf 6] [6] .ret) .skip)
abbrev Zc6:SCode:=qR [Qm 8 1,Qu 9 .eql 8 1,Qm 10 9,Ym 11 10 1,qc 12 10 (.bin .eql (.t 11) (qi 2)),Qq 13 10 12,Qm 4 13] [4] .ret
abbrev Zc5:SCode:=qR [Qm 6 4,Qm 7 0,Qn 8 7,Qv 9 .lss 6 8] [0,3,4,9] (qX 9)
abbrev Zc4:List SOper:=[Qb 1 25 0,qa 2 (.alloc 34 zItm)]
abbrev Zc3:List AV:=[.i 0,.i 0,.i 0]
abbrev Zc2:SCode:=qR [Qf 4] [4] .ret
abbrev Zc1:SCode:=qR [Qf 2] [2] .ret
abbrev Zc0:List AV:=[.i 0,.i 0,.i 0,.i 0,.i 0,.str []]
def r11:RL:=[(0,none)]
def s11:SCode:=qR [Qf 0] [] (qR [qa 4 (.build Zc17 [(0,(1,qi 2)),(1,(1,.c (.str [53])))]),qa 5 (.buildS 85 2 1 Zc17 [(0,.t 4)]),Qm 1 5] [1] (qR [Qm 6 1,qa 7 (.build zItm [(0,(1,qi 5)),(1,(1,.t 6)),(15,(1,.c (.str [53])))]),Q1 8 39 7,Qm 2 8] [1,2] (qR [Qm 9 1,qa 10 (.buildS 9 1 1 [.str []] [(0,.c (.str [97]))]),qa 11 (.buildS 9 1 1 [.str []] [(0,.c (.str [97]))]),qa 12 (.build zItm [(0,(1,qi 2)),(1,(1,.t 9)),(13,(1,.t 10)),(14,(1,.t 11))]),Q1 13 39 12,Qm 3 13] [2,3] (qR [Qm 14 2,Qn 15 14,Qu 16 .eql 15 1,Qm 17 16,Bm 18 17 2,qb 19 17 (.indexA 6 (.t 18) (qi 0)),qb 20 17 (fa 4 19),qb 21 17 (lo 20),qb 22 17 (.bin .eql (.t 21) (qi 10)),Qp 23 17 22,Qm 24 23,Bm 25 24 2,qb 26 24 (.indexA 6 (.t 25) (qi 0)),qb 27 24 (fa 5 26),qb 28 24 (lo 27),qb 29 24 (.bin .eql (.t 28) (.c (.str [111,119,110,32,108,97,98,101,108]))),Qp 30 24 29,Qm 31 30,Bm 32 31 3,qb 33 31 (.len (.t 32)),qb 34 31 (.bin .eql (.t 33) (qi 1)),Qp 35 31 34,Qm 36 35,Bm 37 36 3,qb 38 36 (.indexA 6 (.t 37) (qi 0)),qb 39 36 (fa 4 38),qb 40 36 (lo 39),qb 41 36 (.bin .eql (.t 40) (qi 11)),Qp 42 36 41,Qm 43 42,qb 44 43 (.build [.i 0,.str [],.i 0,.i 0,.i 0,.str [],.nil] []),qb 45 43 (.call (.f 40) [.t 44]),qb 46 43 (.len (.t 45)),qb 47 43 (.bin .eql (.t 46) (qi 1)),Qp 48 43 47,Qm 0 48] [0] .ret))))
def c11:FB 11 []=some (r11,s11):=by kernel_rfl
def r17:RL:=[(4,none)]
def s17:SCode:=qR [Qb 2 8 0,Qf 4] [1,2] (qR [Ql 5 8 2,Qm 6 1,qa 7 (.call (.f 49) [.t 5,qi 0,.t 6]),Qm 8 1,Qv 9 .leq 7 8,Qm 10 9,qb 11 10 (lm 8 2),qb 12 10 (.call (.f 50) [.t 11]),Qp 13 10 12,Qm 4 13] [4] .ret)
def c17:FB 17 [2000002]=some (r17,s17):=by kernel_rfl
def r35:RL:=[(4,none)]
def s35:SCode:=qR [Qb 2 8 0,Qb 3 8 1,Qf 4] [2,3] (qs (qR [Qa 6 0 2,Ql 7 3 6,Qa 8 0 3,Ql 9 3 8,qa 10 (.eqs true [1,1,1] (.t 7) (.t 9)),Qm 11 10,qc 12 11 (fa 3 2),qc 13 11 (lo 12),qc 14 11 (fa 3 3),qc 15 11 (lo 14),qc 16 11 (.bin .neq (.t 13) (.t 15)),Qq 17 11 16,Qm 18 17,qc 19 18 (fa 4 2),qc 20 18 (lo 19),qc 21 18 (fa 4 3),qc 22 18 (lo 21),qc 23 18 (.bin .neq (.t 20) (.t 22)),Qq 24 18 23,Qm 25 24,qc 26 25 (fa 5 2),qc 27 25 (lo 26),qc 28 25 (fa 5 3),qc 29 25 (lo 28),qc 30 25 (.call (.f 36) [.t 27,.t 29]),qc 31 25 (.not (.t 30)),Qq 32 25 31,Qm 33 32,qc 34 33 (fa 6 2),qc 35 33 (lo 34),qc 36 33 (fa 6 3),qc 37 33 (lo 36),qc 38 33 (.call (.f 36) [.t 35,.t 37]),qc 39 33 (.not (.t 38)),Qq 40 33 39,Qm 41 40,qc 42 41 (fa 7 2),qc 43 41 (lo 42),qc 44 41 (.len (.t 43)),qc 45 41 (fa 7 3),qc 46 41 (lo 45),qc 47 41 (.len (.t 46)),qc 48 41 (.bin .neq (.t 44) (.t 47)),Qq 49 41 48] [2,3,49] (.cond (.t 49) Zc2 .skip)) (qs (qR [Qi 5 0] [2,3,5] (qs (.block 0 (.loop (qs (qR [Qm 50 5,Qa 51 7 2,Qo 52 51,Qn 53 52,Qv 54 .lss 50 53] [2,3,5,54] (qX 54)) (qs (qs (.block 1 (qs (.drawT (.step (Qa 57 7 2) (.step (qa 58 (.loadF false 1 (.t 57))) (.step (Qm 59 5) (.step (Qx 60 8 58 59) (.step (Qa 62 7 3) (.step (qa 63 (.loadF false 1 (.t 62))) (.step (Qm 64 5) (.step (Qx 65 8 63 64) (.both (.step (Ql 61 8 60) (.step (Ql 66 8 65) Zc16)) (.step (Ql 66 8 65) (.step (Ql 61 8 60) Zc16))))))))))) [2,3,5,68]) (.cond (.t 68) Zc2 .skip))) (qr [] [2,3,5])) (qr [Qm 55 5,Qu 56 .add 55 1,Qm 5 56] [2,3,5]))))) (qr [] []))) (qR [Qt 4] [4] .ret)))
def c35:FB 35 [2000002,2000003]=some (r35,s35):=by kernel_rfl
def r47:RL:=[(4,none)]
def s47:SCode:=qR [Qb 2 25 0,Qb 3 25 1,Qf 4] [2,3] (qs (qR [Qa 6 0 2,Qo 7 6,Qa 8 0 3,Qo 9 8,Qv 10 .neq 7 9,Qm 11 10,qc 12 11 (fa 3 2),qc 13 11 (lo 12),qc 14 11 (fa 3 3),qc 15 11 (lo 14),qc 16 11 (.bin .neq (.t 13) (.t 15)),Qq 17 11 16,Qm 18 17,qc 19 18 (fa 4 2),qc 20 18 (lo 19),qc 21 18 (fa 4 3),qc 22 18 (lo 21),qc 23 18 (.bin .neq (.t 20) (.t 22)),Qq 24 18 23,Qm 25 24,qc 26 25 (fa 15 2),qc 27 25 (lo 26),qc 28 25 (fa 15 3),qc 29 25 (lo 28),qc 30 25 (.bin .neq (.t 27) (.t 29)),Qq 31 25 30,Qm 32 31,qc 33 32 (fa 16 2),qc 34 32 (lo 33),qc 35 32 (fa 16 3),qc 36 32 (lo 35),qc 37 32 (.bin .neq (.t 34) (.t 36)),Qq 38 32 37,Qm 39 38,qc 40 39 (fa 17 2),qc 41 39 (lm 3 40),qc 42 39 (fa 17 3),qc 43 39 (lm 3 42),qc 44 39 (.eqs true [1,1,2] (.t 41) (.t 43)),Qq 45 39 44,Qm 46 45,qc 47 46 (fa 20 2),qc 48 46 (lo 47),qc 49 46 (fa 20 3),qc 50 46 (lo 49),qc 51 46 (.bin .neq (.t 48) (.t 50)),Qq 52 46 51,Qm 53 52,qc 54 53 (fa 21 2),qc 55 53 (lo 54),qc 56 53 (fa 21 3),qc 57 53 (lo 56),qc 58 53 (.bin .neq (.t 55) (.t 57)),Qq 59 53 58,Qm 60 59,qc 61 60 (fa 22 2),qc 62 60 (lo 61),qc 63 60 (fa 22 3),qc 64 60 (lo 63),qc 65 60 (.bin .neq (.t 62) (.t 64)),Qq 66 60 65,Qm 67 66,qc 68 67 (fa 23 2),qc 69 67 (lo 68),qc 70 67 (fa 23 3),qc 71 67 (lo 70),qc 72 67 (.bin .neq (.t 69) (.t 71)),Qq 73 67 72] [2,3,73] (.cond (.t 73) Zc2 .skip)) (qs (qR [Qa 74 1 2,Qo 75 74,Qa 76 1 3,Qo 77 76,Q2 78 103 75 77,Qr 79 78,Qm 80 79,qc 81 80 (fa 2 2),qc 82 80 (lo 81),qc 83 80 (fa 2 3),qc 84 80 (lo 83),qc 85 80 (.call (.f 103) [.t 82,.t 84]),qc 86 80 (.not (.t 85)),Qq 87 80 86,Qm 88 87,qc 89 88 (fa 13 2),qc 90 88 (lo 89),qc 91 88 (fa 13 3),qc 92 88 (lo 91),qc 93 88 (.call (.f 104) [.t 90,.t 92]),qc 94 88 (.not (.t 93)),Qq 95 88 94,Qm 96 95,qc 97 96 (fa 14 2),qc 98 96 (lo 97),qc 99 96 (fa 14 3),qc 100 96 (lo 99),qc 101 96 (.call (.f 104) [.t 98,.t 100]),qc 102 96 (.not (.t 101)),Qq 103 96 102,Qm 104 103,qc 105 104 (fa 5 2),qc 106 104 (lm 8 105),qc 107 104 (fa 5 3),qc 108 104 (lm 8 107),qc 109 104 (.call (.f 35) [.t 106,.t 108]),qc 110 104 (.not (.t 109)),Qq 111 104 110,Qm 112 111,qc 113 112 (fa 24 2),qc 114 112 (lo 113),qc 115 112 (.len (.t 114)),qc 116 112 (fa 24 3),qc 117 112 (lo 116),qc 118 112 (.len (.t 117)),qc 119 112 (.bin .neq (.t 115) (.t 118)),Qq 120 112 119] [2,3,120] (.cond (.t 120) Zc2 .skip)) (qs (qR [Qi 5 0] [2,3,5] (qs (.block 0 (.loop (qs (qR [Qm 121 5,Qa 122 24 2,Qo 123 122,Qn 124 123,Qv 125 .lss 121 124] [2,3,5,125] (qX 125)) (qs (qs (.block 1 (qs (.drawT (.step (Qa 128 24 2) (.step (qa 129 (.loadF false 1 (.t 128))) (.step (Qm 130 5) (.step (Qx 131 25 129 130) (.step (Qa 133 24 3) (.step (qa 134 (.loadF false 1 (.t 133))) (.step (Qm 135 5) (.step (Qx 136 25 134 135) (.both (.step (Ql 132 25 131) (.step (Ql 137 25 136) Zc13)) (.step (Ql 137 25 136) (.step (Ql 132 25 131) Zc13))))))))))) [2,3,5,139]) (.cond (.t 139) Zc2 .skip))) (qr [] [2,3,5])) (qr [Qm 126 5,Qu 127 .add 126 1,Qm 5 127] [2,3,5]))))) (qr [] []))) (qR [Qt 4] [4] .ret))))
def c47:FB 47 [2000002,2000003]=some (r47,s47):=by kernel_rfl
def r50:RL:=[(2,none)]
def s50:SCode:=qR Zc11 [1] (qs (qR [Qa 4 4 1,Qo 5 4,QN 6 5,Qu 7 .gtr 6 30,Qm 8 7,qc 9 8 (fa 5 1),qc 10 8 (lo 9),qc 11 8 (.call (.f 105) [.t 10]),qc 12 8 (.not (.t 11)),Qq 13 8 12,Qm 14 13,qc 15 14 (fa 6 1),qc 16 14 (lo 15),qc 17 14 (.call (.f 105) [.t 16]),qc 18 14 (.not (.t 17)),Qq 19 14 18] [1,19] (.cond (.t 19) Zc1 .skip)) (qs (qR [Qi 3 0] [1,3] (qs (.block 0 (.loop (qs (qR [Qm 20 3,Qa 21 7 1,Qo 22 21,Qn 23 22,Qv 24 .lss 20 23] [1,3,24] (qX 24)) (qs (qs (.block 1 (qR [Qa 27 7 1,Qo 28 27,Qm 29 3,Qx 30 8 28 29,Ql 31 8 30,Q1 32 50 31,Qr 33 32] [1,3,33] (.cond (.t 33) Zc1 .skip))) (qr [] [1,3])) (qr [Qm 25 3,Qu 26 .add 25 1,Qm 3 26] [1,3]))))) (qr [] []))) Zc9))
def c50:FB 50 [2000001]=some (r50,s50):=by kernel_rfl
def r53:RL:=[(2,none)]
def s53:SCode:=qR [Qb 1 8 0,Qz 2] [1] (qR [Qa 5 0 1,Ql 6 3 5,qa 7 (.buildS 23 3 1 Zc3 [(0,.t 6)]),Qm 3 7] [1,3] (qs (qR [Qi 4 0] [1,3,4] (qs (.block 0 (.loop (qs (qR [Qm 8 4,Qa 9 7 1,Qo 10 9,Qn 11 10,Qv 12 .lss 8 11] [1,3,4,12] (qX 12)) (qs (qs (.block 1 (qr [Qm 15 3,Qa 16 7 1,Qo 17 16,Qm 18 4,Qx 19 8 17 18,Ql 20 8 19,Q1 21 53 20,Qw 22 23 3 24 15 21,Qm 3 22] [1,3,4])) (qr [] [1,3,4])) (qr [Qm 13 4,Qu 14 .add 13 1,Qm 4 14] [1,3,4]))))) (qr [] [3]))) (qR [Qm 23 3,Qm 2 23] [2] .ret)))
def c53:FB 53 [2000001]=some (r53,s53):=by kernel_rfl
def r65:RL:=[(2,none)]
def s65:SCode:=qR [Qz 2] [0] (qs (qR [Qm 3 0,qa 4 (.eqnil 0 false (.t 3))] [0,4] (.cond (.t 4) (qR [Qz 2] [2] .ret) .skip)) (qR [qa 5 (.raw (.buildSlice 24 0 #[])),Qm 6 0,qa 7 (.raw (.call (.mk (.builtin .append) #[.tmp 5,.tmp 6] #[24,24]))),Qm 2 7] [2] .ret))
def c65:FB 65 [3000005,3000007]=some (r65,s65):=by kernel_rfl
def r71:RL:=[(6,none)]
def s71:SCode:=qR [Qf 6] [0,1,2] (qR [Qm 7 0,Qm 8 1,Qv 9 .geq 7 8,Qm 10 9,Bm 11 10 0,Bm 12 10 2,qb 13 10 (.bin .leq (.t 11) (.t 12)),Qp 14 10 13,Qm 6 14] [6] .ret)
def c71:FB 71 []=some (r71,s71):=by kernel_rfl
def r74:RL:=[(2,none)]
def s74:SCode:=qR [Qf 2] [0] (qs (qR [Qm 5 0,QN 6 5,Qu 7 .lss 6 1,Qm 8 7,Ym 9 8 0,qc 10 8 (.lenS (.t 9)),qc 11 8 (.bin .gtr (.t 10) (qi 16)),Qq 12 8 11,Qm 13 12,Ym 14 13 0,qc 15 13 (.index (.t 14) (qi 0)),qc 16 13 (.bin .lss (.t 15) (.c (.int .u8 97))),Qq 17 13 16,Qm 18 17,Ym 19 18 0,qc 20 18 (.index (.t 19) (qi 0)),qc 21 18 (.bin .gtr (.t 20) (.c (.int .u8 122))),Qq 22 18 21] [0,22] (.cond (.t 22) Zc1 .skip)) (qs (qR [Qi 3 0] [0,3] (qs (.block 0 (.loop (qs (qR [Qm 23 3,Qm 24 0,QN 25 24,Qv 26 .lss 23 25] [0,3,26] (qX 26)) (qs (qs (.block 1 (qR [Qm 29 0,Qm 30 3,QI 31 29 30,Qm 4 31] [0,3,4] (qR [Qm 32 4,qa 33 (.bin .geq (.t 32) (.c (.int .u8 97))),Qm 34 33,Bm 35 34 4,qb 36 34 (.bin .leq (.t 35) (.c (.int .u8 122))),Qp 37 34 36,Qm 38 37,Ym 39 38 4,qc 40 38 (.bin .geq (.t 39) (.c (.int .u8 48))),Ym 41 38 40,Bm 42 41 4,qb 43 41 (.bin .leq (.t 42) (.c (.int .u8 57))),qc 44 38 (.pick (.t 41) (.t 43) qf),Qq 45 38 44,Qm 46 45,Ym 47 46 4,qc 48 46 (.bin .eql (.t 47) (.c (.int .u8 45))),Qq 49 46 48,Qr 50 49] [0,3,50] (.cond (.t 50) Zc1 .skip)))) (qr [] [0,3])) (qr [Qm 27 3,Qu 28 .add 27 1,Qm 3 28] [0,3]))))) (qr [] []))) Zc9))
def c74:FB 74 []=some (r74,s74):=by kernel_rfl
def r77:RL:=[(2,none)]
def s77:SCode:=qR Zc11 [1] (qs (.drawL [Qs 3 8 1,Q1 4 106 3,Qm 5 4,qb 6 5 (.loadF true 8 (.t 1)),qb 7 5 (.loadF true 8 (.t 1)),qb 8 5 (.call (.f 139) [.t 7]),qb 9 5 (.call (.f 35) [.t 6,.t 8]),Qp 10 5 9,Qm 2 10] [2]) .ret)
def c77:FB 77 [2000001]=some (r77,s77):=by kernel_rfl
def r92:RL:=[(4,none)]
def s92:SCode:=qR [Qf 4] [0,1] (qR [Qm 5 0,Qm 6 1,Q2 7 167 5 6,Qu 8 .geq 7 0,Qm 4 8] [4] .ret)
def c92:FB 92 []=some (r92,s92):=by kernel_rfl
def r95:RL:=[(4,some (true,6)),(5,none)]
def s95:SCode:=qR [Qb 2 7 0,Qb 3 25 1,qa 4 (.alloc 88 Zc0),Qf 5] [2,3,4] (qs (qs (.block 0 (qR [Qa 7 0 3,Qo 8 7,Q1 9 171 8,Qr 10 9,Qm 11 10,qc 12 11 (fa 20 3),qc 13 11 (lo 12),qc 14 11 (fa 0 2),qc 15 11 (lo 14),qc 16 11 (.bin .neq (.t 13) (.t 15)),Qq 17 11 16,Qm 6 17] [2,3,4,6] (.cond (.t 6) (qR [qa 18 (.build Zc0 []),QS 6 4 18,Qf 5] [4,5] .ret) (qR [Qa 20 21 3,Qo 21 20,Qa 22 6 2,Qo 23 22,Qn 24 23,Qv 25 .geq 21 24,Qm 19 25] [2,3,4,19] (.cond (.t 19) (qR [qa 26 (.build Zc0 [(4,(1,qi 4)),(5,(1,.c (.str [110,111,32,115,117,99,104,32,105,116,101,109])))]),QS 6 4 26,Qt 5] [4,5] .ret) (qR [Qa 28 21 3,Qo 29 28,Qu 30 .geq 29 0,Qm 31 30,qb 32 31 (fa 6 2),qb 33 31 (lo 32),qb 34 31 (fa 21 3),qb 35 31 (lo 34),qb 36 31 (.indexA 25 (.t 33) (.t 35)),qb 37 31 (fa 0 36),qb 38 31 (lo 37),qb 39 31 (.call (.f 54) [.t 38]),qb 40 31 (.not (.t 39)),Qp 41 31 40,Qm 27 41] [4,27] (.cond (.t 27) (qR [qa 42 (.build Zc0 [(4,(1,qi 9)),(5,(1,.c (.str [110,111,116,32,97,110,32,97,109,101,110,100,109,101,110,116])))]),QS 6 4 42,Qt 5] [4,5] .ret) .skip))))))) (qr [] [4])) (qR [qa 43 (.build Zc0 []),QS 6 4 43,Qf 5] [4,5] .ret))
def c95:FB 95 [2000002,2000003]=some (r95,s95):=by kernel_rfl
def r98:RL:=[(2,none)]
def s98:SCode:=qR [Qb 1 3 0,Qf 2] [1] (qs (qR [Qa 3 0 1,Qo 4 3] [1,4] (qs (.block 0 (qR [Qu 6 .eql 4 1,Qm 5 6] [1,4,5] (.cond (.t 5) (qR [Qa 7 1 1,Qo 8 7,qa 9 (.call (.f 71) [.t 8,qi 0,qi 1048576]),Qm 10 9,qb 11 10 (fa 2 1),qb 12 10 (lo 11),qb 13 10 (.bin .eql (.t 12) (.c (.str []))),Qp 14 10 13,Qm 2 14] [2] .ret) (qR [Qu 16 .eql 4 2,Qm 15 16] [1,4,15] (.cond (.t 15) (qR [Qa 17 1 1,Qo 18 17,Qu 19 .eql 18 0,Qm 20 19,qb 21 20 (fa 2 1),qb 22 20 (lo 21),qb 23 20 (.bin .eql (.t 22) (.c (.str []))),Qp 24 20 23,Qm 2 24] [2] .ret) (qR [Qu 26 .eql 4 3,Qm 25 26] [1,25] (.cond (.t 25) (qR [Qa 27 1 1,Qo 28 27,Qu 29 .eql 28 0,Qm 30 29,qb 31 30 (fa 2 1),qb 32 30 (lo 31),qb 33 30 (.call (.f 74) [.t 32]),Qp 34 30 33,Qm 2 34] [2] .ret) .skip))))))) (qr [] []))) Zc1)
def c98:FB 98 [2000001]=some (r98,s98):=by kernel_rfl
def r101:RL:=[(4,none)]
def s101:SCode:=qR [Qf 4] [0,1] (qs (qR [Qm 5 0] [1,5] (qs (.block 0 (qR [Qu 7 .eql 5 0,Qm 6 7] [1,5,6] (.cond (.t 6) Zc6 (qR [Qu 15 .eql 5 1,Qm 14 15] [1,5,14] (.cond (.t 14) Zc18 (qs (qR [Qu 19 .eql 5 2,Qm 18 19] [1,5,18] (.cond (.t 18) .skip (qr [Qu 20 .eql 5 3,Qm 18 20] [1,5,18]))) (.cond (.t 18) (qR [Qm 21 1,Qu 22 .eql 21 3,Qm 23 22,Ym 24 23 1,qc 25 23 (.bin .eql (.t 24) (qi 4)),Qq 26 23 25,Qm 27 26,Ym 28 27 1,qc 29 27 (.bin .eql (.t 28) (qi 7)),Qq 30 27 29,Qm 4 30] [4] .ret) (qR [Qu 32 .eql 5 4,Qm 31 32] [1,5,31] (.cond (.t 31) (qR [Qm 33 1,Qu 34 .eql 33 5,Qm 4 34] [4] .ret) (qR [Qu 36 .eql 5 5,Qm 35 36] [1,35] (.cond (.t 35) (qR [Qm 37 1,Qu 38 .eql 37 6,Qm 4 38] [4] .ret) .skip))))))))))) (qr [] []))) Zc2)
def c101:FB 101 []=some (r101,s101):=by kernel_rfl
def r104:RL:=[(4,none)]
def s104:SCode:=qR [Qf 4] [0,1] (qs (qR [Qm 6 0,Qn 7 6,Qm 8 1,Qn 9 8,Qv 10 .neq 7 9] [0,1,10] (.cond (.t 10) Zc2 .skip)) (qs (qR [Qi 5 0] [0,1,5] (qs (.block 0 (.loop (qs (qR [Qm 11 5,Qm 12 0,Qn 13 12,Qv 14 .lss 11 13] [0,1,5,14] (qX 14)) (qs (qs (.block 1 (qs (.draw [Qm 17 0,Qm 18 5,Qx 19 1 17 18,Qo 20 19,Qm 21 1,Qm 22 5,Qx 23 1 21 22,Qo 24 23,Qv 25 .neq 20 24] [0,1,5,25]) (.cond (.t 25) Zc2 .skip))) (qr [] [0,1,5])) (qr [Qm 15 5,Qu 16 .add 15 1,Qm 5 16] [0,1,5]))))) (qr [] []))) (qR [Qt 4] [4] .ret)))
def c104:FB 104 []=some (r104,s104):=by kernel_rfl
def r107:RL:=[(2,none)]
def s107:SCode:=qR Zc11 [1] (qs (qR [Qa 4 3 1,Qo 5 4,Qu 6 .neq 5 0,Qm 7 6,qb 8 7 (fa 0 1),qb 9 7 (lm 3 8),qb 10 7 (.build Zc3 []),qb 11 7 (.eqs false [1,1,1] (.t 9) (.t 10)),Qp 12 7 11] [1,12] (.cond (.t 12) Zc1 .skip)) (qs (qR [Qi 3 0] [1,3] (qs (.block 0 (.loop (qs (qR [Qm 13 3,Qa 14 7 1,Qo 15 14,Qn 16 15,Qv 17 .lss 13 16] [1,3,17] (qX 17)) (qs (qs (.block 1 (qR [Qa 20 7 1,Qo 21 20,Qm 22 3,Qx 23 8 21 22,Ql 24 8 23,Q1 25 107 24,Qr 26 25] [1,3,26] (.cond (.t 26) Zc1 .skip))) (qr [] [1,3])) (qr [Qm 18 3,Qu 19 .add 18 1,Qm 3 19] [1,3]))))) (qr [] []))) Zc9))
def c107:FB 107 [2000001]=some (r107,s107):=by kernel_rfl
def r131:RL:=[(2,none)]
def s131:SCode:=qR [Qf 2] [0] (qs (qR [Qm 5 0,Qn 6 5,Qi 7 0] [0,5,6,7] (qs (.block 0 (.loop (qR [Qv 8 .lss 7 6] [0,5,6,7,8] (qs (qX 8) (qs (qs (.block 1 (qR [Qm 9 7,Qx 10 2 5 7,Ql 11 2 10,qa 4 (.alloc 85 Zc17),Qm 3 9,QS 2 4 11] [0,3,4,5,6,7] (qs (qR [Qm 12 3,Qu 13 .eql 12 0,Qm 14 13,qb 15 14 (lm 2 4),qb 16 14 (.call (.f 251) [.t 15]),Qp 17 14 16] [0,4,5,6,7,17] (.cond (.t 17) (.exit 1) .skip)) (qR [Qa 18 0 4,Qo 19 18,Qu 20 .leq 19 0,Qm 21 20,qc 22 21 (fa 0 4),qc 23 21 (lo 22),qc 24 21 (.bin .gtr (.t 23) (qi 7)),Qq 25 21 24,Qm 26 25,qc 27 26 (fa 1 4),qc 28 26 (lo 27),qc 29 26 (.call (.f 198) [.t 28]),qc 30 26 (.not (.t 29)),Qq 31 26 30] [0,5,6,7,31] (.cond (.t 31) Zc1 .skip))))) (qr [] [0,5,6,7])) (qr [Qu 32 .add 7 1,Qm 7 32] [0,5,6,7])))))) (qr [] [0]))) (qR [Qm 33 0,Qn 34 33,Qu 35 .leq 34 9,Qm 2 35] [2] .ret))
def c131:FB 131 []=some (r131,s131):=by kernel_rfl
def r137:RL:=[(2,none)]
def s137:SCode:=qR Zc11 [1] (qR [Ql 3 8 1,qa 4 (.call (.f 258) [.t 3,qi 0]),Qm 5 4,qb 6 5 (lm 8 1),qb 7 5 (.call (.f 145) [.t 6]),qb 8 5 (.bin .leq (.t 7) (qi 1024)),Qp 9 5 8,Qm 2 9] [2] .ret)
def c137:FB 137 [2000001]=some (r137,s137):=by kernel_rfl
def r140:RL:=[(2,none)]
def s140:SCode:=qR [Qf 2] [0] (qs (qR [Qm 4 0,Qn 5 4,Qu 6 .gtr 5 256] [0,6] (.cond (.t 6) Zc1 .skip)) (qs (qR [Qi 3 0] [0,3] (qs (.block 0 (.loop (qs (qR [Qm 7 3,Qm 8 0,Qn 9 8,Qv 10 .lss 7 9] [0,3,10] (qX 10)) (qs (qs (.block 1 (qR [Qm 13 0,Qm 14 3,Qx 15 1 13 14,Qo 16 15,Q1 17 261 16,Qr 18 17] [0,3,18] (.cond (.t 18) Zc1 .skip))) (qr [] [0,3])) (qr [Qm 11 3,Qu 12 .add 11 1,Qm 3 12] [0,3]))))) (qr [] []))) Zc9))
def c140:FB 140 []=some (r140,s140):=by kernel_rfl
def r143:RL:=[(4,none)]
def s143:SCode:=qR [Qf 4] [0,1] (qs (qR [Qm 5 0] [1,5] (qs (.block 0 (qR [Qu 7 .eql 5 0,Qm 6 7] [1,5,6] (.cond (.t 6) Zc6 (qR [Qu 15 .eql 5 1,Qm 14 15] [1,5,14] (.cond (.t 14) Zc18 (qR [Qu 19 .eql 5 2,Qm 18 19] [1,5,18] (.cond (.t 18) (qR [Qm 20 1,Qu 21 .eql 20 3,Qm 22 21,Ym 23 22 1,qc 24 22 (.bin .eql (.t 23) (qi 4)),Qq 25 22 24,Qm 26 25,Ym 27 26 1,qc 28 26 (.bin .eql (.t 27) (qi 7)),Qq 29 26 28,Qm 4 29] [4] .ret) (qR [Qu 31 .eql 5 3,Qm 30 31] [1,5,30] (.cond (.t 30) (qR [Qm 32 1,Qu 33 .eql 32 3,Qm 34 33,Ym 35 34 1,qc 36 34 (.bin .eql (.t 35) (qi 4)),Qq 37 34 36,Qm 38 37,Ym 39 38 1,qc 40 38 (.bin .eql (.t 39) (qi 7)),Qq 41 38 40,Qm 4 41] [4] .ret) (qR [Qu 43 .eql 5 4,Qm 42 43] [1,5,42] (.cond (.t 42) (qR [Qm 44 1,Qu 45 .eql 44 5,Qm 4 45] [4] .ret) (qR [Qu 47 .eql 5 5,Qm 46 47] [1,46] (.cond (.t 46) (qR [Qm 48 1,Qu 49 .eql 48 6,Qm 4 49] [4] .ret) .skip))))))))))))) (qr [] []))) Zc2)
def c143:FB 143 []=some (r143,s143):=by kernel_rfl
def r152:RL:=[(2,none)]
def s152:SCode:=qR [Qf 2] [0] (qR [Qm 3 0,Qn 4 3,Qu 5 .eql 4 0,Qm 6 5,Ym 7 6 0,qc 8 6 (.len (.t 7)),qc 9 6 (.bin .eql (.t 8) (qi 1)),Ym 10 6 9,Bm 11 10 0,qb 12 10 (.indexA 2 (.t 11) (qi 0)),qb 13 10 (lm 2 12),qb 14 10 (.build Zc17 []),qb 15 10 (.eqs false [1,2] (.t 13) (.t 14)),qc 16 6 (.pick (.t 10) (.t 15) qf),Qq 17 6 16,Qm 2 17] [2] .ret)
def c152:FB 152 []=some (r152,s152):=by kernel_rfl
def r155:RL:=[(4,none)]
def s155:SCode:=qR [Qb 2 25 0,Qf 4] [1,2] (qR [Qa 5 0 2,Qo 6 5,Qm 7 1,Qv 8 .eql 6 7,Qm 9 8,qb 10 9 (lm 25 2),qb 11 9 (.call (.f 153) [.t 10]),qb 12 9 (.not (.t 11)),Qp 13 9 12,Qm 4 13] [4] .ret)
def c155:FB 155 [2000002]=some (r155,s155):=by kernel_rfl
def r158:RL:=[(2,none)]
def s158:SCode:=qR [Qb 1 25 0,Qf 2] [1] (qR [Ql 3 25 1,qa 4 (.call (.f 155) [.t 3,qi 6]),Qm 5 4,qb 6 5 (fa 1 1),qb 7 5 (lo 6),qb 8 5 (fa 2 1),qb 9 5 (lo 8),qb 10 5 (.call (.f 159) [.t 7,.t 9]),Qp 11 5 10,Qm 2 11] [2] .ret)
def c158:FB 158 [2000001]=some (r158,s158):=by kernel_rfl
def r161:RL:=[(4,none)]
def s161:SCode:=qR [Qf 4] [0,1] (qR [Qm 5 0,Qm 6 1,Q2 7 168 5 6,Qm 4 7] [4] .ret)
def c161:FB 161 []=some (r161,s161):=by kernel_rfl
def r164:RL:=[(2,none)]
def s164:SCode:=qR [Qf 2] [0] (qR [Qm 6 0,Q1 7 266 6,Qm 5 7,Qe 8 0 5,Qe 9 1 5,Qm 3 8,Qm 4 9] [3,4] (qR [Qm 10 4,Qu 11 .eql 10 0,Qm 12 11,Bm 13 12 3,qb 14 12 (.len (.t 13)),qb 15 12 (.bin .gtr (.t 14) (qi 0)),Qp 16 12 15,Qm 2 16] [2] .ret))
def c164:FB 164 []=some (r164,s164):=by kernel_rfl
def r167:RL:=[(4,none)]
def s167:SCode:=qR [Qi 4 0] [0,1] (qs (qR [Qm 6 0,Qn 7 6,Qi 8 0] [0,1,7,8] (qs (.block 0 (.loop (qR [Qv 9 .lss 8 7] [0,1,7,8,9] (qs (qX 9) (qs (qs (.block 1 (qR [Qm 10 8,Qm 5 10] [0,1,5,7,8] (qR [Qm 11 1,Qm 12 0,Qm 13 5,Qx 14 25 12 13,Ql 15 25 14,qa 16 (.call (.t 11) [.t 15])] [0,1,5,7,8,16] Zc15))) (qr [] [0,1,7,8])) Zc23))))) (qr [] []))) (qR [Qi 4 (-1)] [4] .ret))
def c167:FB 167 []=some (r167,s167):=by kernel_rfl
def r170:RL:=[(6,none)]
def s170:SCode:=qR [Qf 6] [0,1,2] (qs Zc7 (qs (qR [Qm 15 0,Qn 16 15,Qi 17 0] [1,2,15,16,17] (qs (.block 0 (.loop (qR [Qv 18 .lss 17 16] [1,2,15,16,17,18] (qs (qX 18) (qs (qs (.block 1 (qR [Qm 19 17,Qx 20 25 15 17,Ql 21 25 20,qa 8 (.alloc 34 zItm),Qm 7 19,QS 25 8 21] [1,2,7,8,15,16,17] (qR [Qm 22 1,Qm 23 7,Qx 24 25 22 23,Ql 25 25 24,qa 9 (.alloc 34 zItm),QS 25 9 25] [1,2,8,9,15,16,17] (qR [Qm 26 2,Ql 27 25 8,Ql 28 25 9,qa 29 (.call (.t 26) [.t 27,.t 28]),Qr 30 29] [1,2,15,16,17,30] Zc22)))) (qr [] [1,2,15,16,17])) Zc19))))) (qr [] []))) (qR [Qt 6] [6] .ret)))
def c170:FB 170 []=some (r170,s170):=by kernel_rfl
def r173:RL:=[(2,none)]
def s173:SCode:=qR Zc11 [1] (qs (qR [Ql 5 8 1,Q1 6 271 5,Qr 7 6] [1,7] (.cond (.t 7) Zc1 .skip)) (qs (qR [Qi 3 0] [1,3] (qs (.block 0 (.loop (qs (qR [Qm 8 3,Qa 9 7 1,Qo 10 9,Qn 11 10,Qv 12 .lss 8 11] [1,3,12] (qX 12)) (qs (qs (.block 1 (qs (qs (.drawL [Qa 15 3 1,qa 16 (.loadF false 1 (.t 15)),Qa 17 7 1,qa 18 (.loadF false 1 (.t 17)),Qm 19 3,Qx 20 8 18 19,Qa 21 3 20,Qo 22 21,Q2 23 101 16 22,Qr 24 23,Qm 25 24,qc 26 25 (fa 7 1),qc 27 25 (.loadF false 1 (.t 26)),Ym 28 25 3,qc 29 25 (.indexA 8 (.t 27) (.t 28)),qc 30 25 (lm 8 29),qc 31 25 (.call (.f 173) [.t 30]),qc 32 25 (.not (.t 31)),Qq 33 25 32] [1,3,33]) (.cond (.t 33) Zc1 .skip)) (qR [Qi 4 0] [1,3,4] (qs (.block 2 (.loop (qs (qR [Qm 34 4,Qm 35 3,Qv 36 .lss 34 35] [1,3,4,36] (.cond (.t 36) .skip (.exit 2))) (qs (qs (.block 3 (qs (.draw [Qa 39 7 1,Qo 40 39,Qm 41 4,Qx 42 8 40 41,Qa 43 3 42,Qo 44 43,Qa 45 7 1,Qo 46 45,Qm 47 3,Qx 48 8 46 47,Qa 49 3 48,Qo 50 49,Qv 51 .eql 44 50,Qm 52 51,qb 53 52 (fa 7 1),qb 54 52 (lo 53),Bm 55 52 4,qb 56 52 (.indexA 8 (.t 54) (.t 55)),qb 57 52 (fa 4 56),qb 58 52 (lo 57),qb 59 52 (fa 7 1),qb 60 52 (lo 59),Bm 61 52 3,qb 62 52 (.indexA 8 (.t 60) (.t 61)),qb 63 52 (fa 4 62),qb 64 52 (lo 63),qb 65 52 (.bin .eql (.t 58) (.t 64)),Qp 66 52 65] [1,3,4,66]) (.cond (.t 66) Zc1 .skip))) (qr [] [1,3,4])) (qr [Qm 37 4,Qu 38 .add 37 1,Qm 4 38] [1,3,4]))))) (qr [] [1,3]))))) (qr [] [1,3])) (qr [Qm 13 3,Qu 14 .add 13 1,Qm 3 14] [1,3]))))) (qr [] []))) Zc9))
def c173:FB 173 [2000001]=some (r173,s173):=by kernel_rfl
def r176:RL:=[(2,none)]
def s176:SCode:=qR Zc11 [1] (qR [Ql 8 8 1,Q1 9 53 8,Qm 3 9] [1,3] (qR [Qt 4] [1,3,4] (qs (qR [Qi 5 0] [1,3,4,5] (qs (.block 0 (.loop (qs (qR [Qm 10 5,Qm 11 3,Qn 12 11,Qv 13 .lss 10 12] [1,3,4,5,13] (qX 13)) (qs (qs (.block 1 (qr [Qm 16 4,Qm 17 16,Bm 18 17 3,Bm 19 17 5,qb 20 17 (.indexA 3 (.t 18) (.t 19)),qb 21 17 (lm 3 20),qb 22 17 (.build Zc3 []),qb 23 17 (.eqs false [1,1,1] (.t 21) (.t 22)),Qp 24 17 23,Qm 4 24] [1,3,4,5])) (qr [] [1,3,4,5])) (qr [Qm 14 5,Qu 15 .add 14 1,Qm 5 15] [1,3,4,5]))))) (qr [] [1,3,4]))) (qs (qR [Qm 25 4] [1,3,25] (.cond (.t 25) Zc9 .skip)) (qs (qs (.drawL [Qm 26 3,qa 27 (.indexA 3 (.t 26) (qi 0)),qa 29 (.build Zc3 []),Qa 31 3 1,qa 32 (.loadF false 1 (.t 31)),Qu 33 .eql 32 0,Ql 28 3 27,qa 30 (.eqs false [1,1,1] (.t 28) (.t 29)),qa 34 (.eqb true (.t 30) (.t 33))] [3,34]) (.cond (.t 34) Zc1 .skip)) (qs (qR [Qi 6 0] [3,6] (qs (.block 2 (.loop (qs (qR [Qm 35 6,Qm 36 3,Qn 37 36,Qv 38 .lss 35 37] [3,6,38] (.cond (.t 38) .skip (.exit 2))) (qs (qs (.block 3 (qR [Qi 7 0] [3,6,7] (qs (.block 4 (.loop (qs (qR [Qm 41 7,Qm 42 6,Qv 43 .lss 41 42] [3,6,7,43] (.cond (.t 43) .skip (.exit 4))) (qs (qs (.block 5 (qs (.draw [Qm 46 3,Qm 47 7,Qx 48 3 46 47,Ql 49 3 48,Qm 50 3,Qm 51 6,Qx 52 3 50 51,Ql 53 3 52,qa 54 (.eqs false [1,1,1] (.t 49) (.t 53))] [3,6,7,54]) (.cond (.t 54) Zc1 .skip))) (qr [] [3,6,7])) (qr [Qm 44 7,Qu 45 .add 44 1,Qm 7 45] [3,6,7]))))) (qr [] [3,6])))) (qr [] [3,6])) (qr [Qm 39 6,Qu 40 .add 39 1,Qm 6 40] [3,6]))))) (qr [] []))) Zc9))))))
def c176:FB 176 [2000001]=some (r176,s176):=by kernel_rfl
def r194:RL:=[(2,none)]
def s194:SCode:=qR [Qb 1 8 0,Qi 2 0] [1] (qR [Qi 3 0] [1,3] (qs (qR [Qa 6 7 1,Qo 7 6,Qn 8 7,Qi 9 0] [3,7,8,9] (qs (.block 0 (.loop (qR [Qv 10 .lss 9 8] [3,7,8,9,10] (qs (qX 10) (qs (qs (.block 1 (qR [Qx 11 8 7 9,Ql 12 8 11,QU 5 27,QS 8 5 12] [3,5,7,8,9] (qr [Qm 13 3,Ql 14 8 5,Q1 15 194 14,qa 16 (.bin .add (qi 1) (.t 15)),qa 17 (.raw (.call (.mk (.builtin .max) #[.tmp 13,.tmp 16] #[3,3]))),Qm 3 17] [3,7,8,9]))) (qr [] [3,7,8,9])) (qr [Qu 18 .add 9 1,Qm 9 18] [3,7,8,9])))))) (qr [] [3]))) (qR [Qm 19 3,Qm 2 19] [2] .ret)))
def c194:FB 194 [2000001]=some (r194,s194):=by kernel_rfl
def r227:RL:=[(2,some (true,25))]
def s227:SCode:=qR Zc4 [1,2] (qR [Qa 3 3 1,Qo 4 3,Qa 5 5 1,Ql 6 8 5,qa 7 (.build zItm [(3,(1,.t 4)),(5,(8,.t 6))]),QS 25 2 7] [2] .ret)
def c227:FB 227 [2000001]=some (r227,s227):=by kernel_rfl
def r230:RL:=[(2,none)]
def s230:SCode:=qR Zc11 [1] (qR [Ql 6 8 1,Q1 7 317 6,Qm 5 7,Qe 8 0 5,Qe 9 1 5,Qm 3 8,Qm 4 9] [1,4] (qR [Ql 10 8 1,Q1 11 318 10,Qm 12 11,qb 13 12 (fa 3 1),qb 14 12 (lo 13),qb 15 12 (.bin .neq (.t 14) (qi 0)),Qp 16 12 15,Qm 17 16,Bm 18 17 4,qb 19 17 (.bin .eql (.t 18) (qi 0)),Qp 20 17 19,Qm 2 20] [2] .ret))
def c230:FB 230 [2000001]=some (r230,s230):=by kernel_rfl
def r233:RL:=[(2,some (true,25))]
def s233:SCode:=qR Zc4 [1,2] (qR [Qa 3 13 1,Qo 4 3,Qa 5 14 1,Qo 6 5,Qa 7 4 1,Qo 8 7,qa 9 (.build zItm [(13,(1,.t 4)),(14,(1,.t 6)),(4,(1,.t 8))]),QS 25 2 9] [2] .ret)
def c233:FB 233 [2000001]=some (r233,s233):=by kernel_rfl
def r236:RL:=[(2,none)]
def s236:SCode:=qR [Qb 1 25 0,Qf 2] [1] (qR [Qa 3 4 1,Qo 4 3,qa 5 (.call (.f 247) [.t 4,qi 0,qi 256]),Qm 2 5] [2] .ret)
def c236:FB 236 [2000001]=some (r236,s236):=by kernel_rfl
def r239:RL:=[(2,some (true,25))]
def s239:SCode:=qR Zc4 [1,2] (qR [Qa 3 14 1,Qo 4 3,qa 5 (.build zItm [(14,(1,.t 4))]),QS 25 2 5] [2] .ret)
def c239:FB 239 [2000001]=some (r239,s239):=by kernel_rfl
def r242:RL:=[(2,none)]
def s242:SCode:=qR [Qb 1 25 0,Qf 2] [1] (qR [Qa 3 15 1,Qo 4 3,Q1 5 198 4,Qm 2 5] [2] .ret)
def c242:FB 242 [2000001]=some (r242,s242):=by kernel_rfl
def r245:RL:=[(2,some (true,25))]
def s245:SCode:=qR Zc4 [1,2] (qR [Qa 3 23 1,Qo 4 3,Qa 5 22 1,Qo 6 5,qa 7 (.build zItm [(23,(1,.t 4)),(22,(1,.t 6))]),QS 25 2 7] [2] .ret)
def c245:FB 245 [2000001]=some (r245,s245):=by kernel_rfl
def r248:RL:=[(2,some (true,25))]
def s248:SCode:=qR Zc4 [1,2] (qR [Qa 3 20 1,Qo 4 3,Qa 5 21 1,Qo 6 5,Qa 7 24 1,Qo 8 7,qa 9 (.build zItm [(20,(1,.t 4)),(21,(1,.t 6)),(24,(1,.t 8))]),QS 25 2 9] [2] .ret)
def c248:FB 248 [2000001]=some (r248,s248):=by kernel_rfl
def r251:RL:=[(2,none)]
def s251:SCode:=qR [Qb 1 2 0,Qf 2] [1] (qR [Qa 3 0 1,Qo 4 3,Qu 5 .eql 4 0,Qm 6 5,qb 7 6 (fa 1 1),qb 8 6 (lo 7),qb 9 6 (.bin .eql (.t 8) (.c (.str []))),Qp 10 6 9,Qm 2 10] [2] .ret)
def c251:FB 251 [2000001]=some (r251,s251):=by kernel_rfl
def r260:RL:=[(2,none)]
def s260:SCode:=qR [Qz 2] [0] (qR [qa 5 (.buildS 118 4 0 [] []),Qm 3 5] [0,3] (qs (qR [Qi 4 0] [0,3,4] (qs (.block 0 (.loop (qs Zc5 (qs (qs (.block 1 (qr [Qm 12 3,Qm 13 0,Qm 14 4,Qx 15 4 13 14,Qa 16 0 15,Qo 17 16,qa 18 (.build Zc12 [(0,(1,.t 17))]),qa 19 (.buildS 118 4 1 Zc12 [(0,.t 18)]),Qw 20 118 4 40 12 19,Qm 3 20] [0,3,4])) (qr [] [0,3,4])) Zc10)))) (qr [] [3]))) (qR [Qm 21 3,Qm 2 21] [2] .ret)))
def c260:FB 260 []=some (r260,s260):=by kernel_rfl
def r266:RL:=[(2,none),(3,none)]
def s266:SCode:=qR [Qz 2,Qi 3 0] [0] (qs (qR [Qm 5 0,qa 6 (.bin .eql (.t 5) (.c (.str [])))] [0,6] (.cond (.t 6) (qR [Qz 2,Qi 3 0] [2,3] .ret) .skip)) (qR [Qm 7 0,qa 8 (.call (.f 330) [.t 7,.c (.str [32])]),Qm 4 8] [4] (qs (qs (.block 0 (qR [Qm 10 4,qa 11 (.call (.f 331) [.t 10,.f 332]),Qm 9 11] [4,9] (.cond (.t 9) (qR [Qz 2,Qi 3 2] [2,3] .ret) (qR [Qm 13 4,Qn 14 13,Qu 15 .gtr 14 256,Qm 12 15] [4,12] (.cond (.t 12) (qR [Qz 2,Qi 3 6] [2,3] .ret) .skip))))) (qr [] [4])) (qR [Qm 16 4,Qm 2 16,Qi 3 0] [2,3] .ret))))
def c266:FB 266 []=some (r266,s266):=by kernel_rfl
def r269:RL:=[(6,none)]
def s269:SCode:=qR [Qf 6] [0,1,2] (qs Zc7 (qs (qR [Qm 15 0,Qn 16 15,Qi 17 0] [1,2,15,16,17] (qs (.block 0 (.loop (qR [Qv 18 .lss 17 16] [1,2,15,16,17,18] (qs (qX 18) (qs (qs (.block 1 (qR [Qm 19 17,Qx 20 8 15 17,Ql 21 8 20,QU 8 27,Qm 7 19,QS 8 8 21] [1,2,7,8,15,16,17] (qR [Qm 22 1,Qm 23 7,Qx 24 8 22 23,Ql 25 8 24,QU 9 27,QS 8 9 25] [1,2,8,9,15,16,17] (qR [Qm 26 2,Ql 27 8 8,Ql 28 8 9,qa 29 (.call (.t 26) [.t 27,.t 28]),Qr 30 29] [1,2,15,16,17,30] Zc22)))) (qr [] [1,2,15,16,17])) Zc19))))) (qr [] []))) (qR [Qt 6] [6] .ret)))
def c269:FB 269 []=some (r269,s269):=by kernel_rfl
def r275:RL:=[(2,none)]
def s275:SCode:=qR Zc11 [1] (qR [Ql 3 8 1,qa 4 (.call (.f 306) [.t 3,.f 342]),Qm 5 4,qb 6 5 (lm 8 1),qb 7 5 (.call (.f 194) [.t 6]),qb 8 5 (.bin .leq (.t 7) (qi 8)),Qp 9 5 8,Qm 10 9,qb 11 10 (lm 8 1),qb 12 10 (.call (.f 210) [.t 11]),qb 13 10 (.bin .leq (.t 12) (qi 1024)),Qp 14 10 13,Qm 15 14,qb 16 15 (lm 8 1),qb 17 15 (.call (.f 343) [.t 16]),Qp 18 15 17,Qm 2 18] [2] .ret)
def c275:FB 275 [2000001]=some (r275,s275):=by kernel_rfl
def r308:RL:=[(3,none)]
def s308:SCode:=qR [Qb 2 8 0,Qf 3] [1,2] (qR [Qo 4 1,Qa 5 0 2,Ql 6 3 5,qa 7 (.buildS 23 3 1 Zc3 [(0,.t 6)]),Qw 8 23 3 24 4 7,QS 1 1 8] [] (qR [Qt 3] [3] .ret))
def c308:FB 308 [2000002]=some (r308,s308):=by kernel_rfl
def r317:RL:=[(2,none),(3,none)]
def s317:SCode:=qR [Qb 1 8 0,qa 2 (.mov (.c (.str []))),Qi 3 0] [1] (qR [Ql 6 8 1,Q1 7 352 6,Qm 4 7] [4] (qs (qR [Qm 8 4,Qn 9 8,Qu 10 .eql 9 0] [4,10] (.cond (.t 10) (qR [qa 2 (.mov (.c (.str []))),Qi 3 1] [2,3] .ret) .skip)) (qR [Qm 11 4,qa 12 (.call (.f 353) [.t 11,.c (.str [10])]),qa 13 (.bin .add (.t 12) (.c (.str [10]))),Qm 5 13] [5] (qs (qR [Qm 14 5,QN 15 14,Qu 16 .gtr 15 16384] [5,16] (.cond (.t 16) (qR [qa 2 (.mov (.c (.str []))),Qi 3 6] [2,3] .ret) .skip)) (qR [Qm 17 5,Qm 2 17,Qi 3 0] [2,3] .ret)))))
def c317:FB 317 [2000001]=some (r317,s317):=by kernel_rfl
def r326:RL:=[(2,none)]
def s326:SCode:=qR Zc11 [1] (qs (qR [Qa 3 3 1,Qo 4 3,Qu 5 .eql 4 0] [1,5] (.cond (.t 5) (qR [Qa 6 4 1,Qo 7 6,qa 8 (.bin .eql (.t 7) (.c (.str []))),Qm 9 8,qb 10 9 (fa 5 1),qb 11 9 (lo 10),qb 12 9 (.len (.t 11)),qb 13 9 (.bin .eql (.t 12) (qi 0)),Qp 14 9 13,Qm 15 14,qb 16 15 (fa 6 1),qb 17 15 (lo 16),qb 18 15 (.len (.t 17)),qb 19 15 (.bin .eql (.t 18) (qi 0)),Qp 20 15 19,Qm 2 20] [2] .ret) .skip)) (qR [Qa 21 3 1,Qo 22 21,Qu 23 .gtr 22 0,Qm 24 23,qb 25 24 (fa 3 1),qb 26 24 (lo 25),qb 27 24 (.bin .leq (.t 26) (qi 7)),Qp 28 24 27,Qm 29 28,qb 30 29 (fa 4 1),qb 31 29 (lo 30),qb 32 29 (.call (.f 79) [.t 31]),Qp 33 29 32,Qm 34 33,qb 35 34 (fa 5 1),qb 36 34 (lo 35),qb 37 34 (.call (.f 360) [.t 36]),Qp 38 34 37,Qm 39 38,qb 40 39 (fa 6 1),qb 41 39 (lo 40),qb 42 39 (.call (.f 360) [.t 41]),Qp 43 39 42,Qm 2 43] [2] .ret))
def c326:FB 326 [2000001]=some (r326,s326):=by kernel_rfl
def r329:RL:=[(4,none)]
def s329:SCode:=qR [Qi 4 0] [0,1] (qs (qR [Qm 6 0,Qn 7 6,Qi 8 0] [0,1,7,8] (qs (.block 0 (.loop (qR [Qv 9 .lss 8 7] [0,1,7,8,9] (qs (qX 9) (qs (qs (.block 1 (qR [Qm 10 8,Qm 5 10] [0,1,5,7,8] (qR [Qm 11 1,Qm 12 0,Qm 13 5,Qx 14 1 12 13,Qo 15 14,Qv 16 .eql 11 15] [0,1,5,7,8,16] Zc15))) (qr [] [0,1,7,8])) Zc23))))) (qr [] []))) (qR [Qi 4 (-1)] [4] .ret))
def c329:FB 329 []=some (r329,s329):=by kernel_rfl
def r332:RL:=[(2,none)]
def s332:SCode:=qR [Qf 2] [0] (qR [Qm 3 0,Q1 4 333 3,Qr 5 4,Qm 2 5] [2] .ret)
def c332:FB 332 []=some (r332,s332):=by kernel_rfl
def r344:RL:=[(2,none)]
def s344:SCode:=qR [Qf 2] [0] (qR [Qm 3 0,qa 4 (.bin .lss (.t 3) (.c (.int .i32 48))),Qm 5 4,Ym 6 5 0,qc 7 5 (.bin .gtr (.t 6) (.c (.int .i32 57))),Qq 8 5 7,Qm 2 8] [2] .ret)
def c344:FB 344 []=some (r344,s344):=by kernel_rfl
def r362:RL:=[(2,none)]
def s362:SCode:=qR Zc21 [0] (qR [qa 3 (.mov (.c (.str [])))] [0,3] (qs (qR [Qi 4 0] [0,3,4] (qs (.block 0 (.loop (qs Zc5 (qs (qs (.block 1 (qR [Qm 12 0,Qm 13 4,Qx 14 4 12 13,Qa 15 0 14,Qo 16 15,Qm 5 16] [0,3,4,5] (qs (qR [Qm 17 5,qa 18 (.index (.t 17) (qi 0)),qa 19 (.bin .eql (.t 18) (.c (.int .u8 124))),Qm 20 19,Ym 21 20 5,qc 22 20 (.index (.t 21) (qi 0)),qc 23 20 (.bin .eql (.t 22) (.c (.int .u8 92))),Qq 24 20 23] [0,3,4,5,24] (.cond (.t 24) (qr [Qm 25 5,qa 26 (.bin .add (.c (.str [92])) (.t 25)),Qm 5 26] [0,3,4,5]) .skip)) (qr [Qm 27 3,qa 28 (.bin .add (.t 27) (.c (.str [32]))),Qm 29 5,Qv 30 .add 28 29,Qm 3 30] [0,3,4])))) (qr [] [0,3,4])) Zc10)))) (qr [] [3]))) (qR [Qm 31 3,Qm 2 31] [2] .ret)))
def c362:FB 362 []=some (r362,s362):=by kernel_rfl
def r365:RL:=[(2,none)]
def s365:SCode:=qR [Qf 2] [0] (qR [Qm 3 0,qa 4 (.bin .lss (.t 3) (.c (.int .u8 33))),Qm 5 4,Ym 6 5 0,qc 7 5 (.bin .gtr (.t 6) (.c (.int .u8 126))),Qq 8 5 7,Qm 2 8] [2] .ret)
def c365:FB 365 []=some (r365,s365):=by kernel_rfl
def r368:RL:=[(2,none)]
def s368:SCode:=qR [Qz 2] [0] (qR [qa 5 (.buildS 9 1 0 [] []),Qm 3 5] [0,3] (qs (qR [Qi 4 0] [0,3,4] (qs (.block 0 (.loop (qs Zc5 (qs (qs (.block 1 (qr [Qm 12 3,Qm 13 0,Qm 14 4,Qx 15 4 13 14,Qa 16 0 15,Qo 17 16,qa 18 (.buildS 9 1 1 [.str []] [(0,.t 17)]),Qw 19 9 1 16 12 18,Qm 3 19] [0,3,4])) (qr [] [0,3,4])) Zc10)))) (qr [] [3]))) (qR [Qm 20 3,Qm 2 20] [2] .ret)))
def c368:FB 368 []=some (r368,s368):=by kernel_rfl
def r374:RL:=[(2,none)]
def s374:SCode:=qR Zc21 [0] (qs (qR [Qm 3 0,Qu 4 .lss 3 0,Qm 5 4,Ym 6 5 0,qc 7 5 (.bin .geq (.t 6) (qi 8)),Qq 8 5 7] [0,8] (.cond (.t 8) (qR Zc21 [2] .ret) .skip)) (qR [Qm 9 0,qa 10 (.indexP 8 1 (.g 4) (.t 9)),Qo 11 10,Qm 2 11] [2] .ret))
def c374:FB 374 []=some (r374,s374):=by kernel_rfl
def r386:RL:=[]
def s386:SCode:=qR [Qb 4 8 0] [1,2,3,4] (qs (.drawT (.step (Qs 9 8 4) (.step (Qm 10 1) (.both (.step (Qo 8 2) (.step (Q2 11 387 9 10) Zc8)) (.step (Q2 11 387 9 10) (.both (.step (Qo 8 2) Zc8) (.step Zc20 (.step (Qo 8 2) Zc14))))))) [1,3,4]) (qR [Qa 14 7 4,Qo 15 14,Qn 16 15,Qi 17 0] [1,3,15,16,17] (qs (.block 0 (.loop (qR [Qv 18 .lss 17 16] [1,3,15,16,17,18] (qs (qX 18) (qs (qs (.block 1 (qR [Qx 19 8 15 17,Ql 20 8 19,QU 7 27,QS 8 7 20] [1,3,7,15,16,17] (qr [Qo 21 3,Ql 22 8 7,Qm 23 1,Qu 24 .add 23 1,qa 25 (.call (.t 21) [.t 22,.t 24])] [1,3,15,16,17]))) (qr [] [1,3,15,16,17])) (qr [Qu 26 .add 17 1,Qm 17 26] [1,3,15,16,17])))))) (qr [] []))))
def c386:FB 386 [2000004]=some (r386,s386):=by kernel_rfl
def r392:RL:=[(2,none)]
def s392:SCode:=qR [Qf 2] [0] (qs (qR [Qi 3 0] [0,3] (qs (.block 0 (.loop (qs (qR [Qm 4 3,Qm 5 0,QN 6 5,Qv 7 .lss 4 6] [0,3,7] (qX 7)) (qs (qs (.block 1 (qR [Qm 10 0,Qm 11 3,QI 12 10 11,qa 13 (.bin .lss (.t 12) (.c (.int .u8 33))),Qm 14 13,Ym 15 14 0,Ym 16 14 3,qc 17 14 (.index (.t 15) (.t 16)),qc 18 14 (.bin .gtr (.t 17) (.c (.int .u8 126))),Qq 19 14 18] [0,3,19] (.cond (.t 19) Zc1 .skip))) (qr [] [0,3])) (qr [Qm 8 3,Qu 9 .add 8 1,Qm 3 9] [0,3]))))) (qr [] [0]))) (qR [Qm 20 0,QN 21 20,Qu 22 .geq 21 1,Qm 23 22,Bm 24 23 0,qb 25 23 (.lenS (.t 24)),qb 26 23 (.bin .leq (.t 25) (qi 24)),Qp 27 23 26,Qm 2 27] [2] .ret))
def c392:FB 392 []=some (r392,s392):=by kernel_rfl
def r401:RL:=[(4,none)]
def s401:SCode:=qR [qa 4 (.mov (.c (.str [])))] [0,1] (qs (qR [Qm 7 1,Qn 8 7,Qi 9 0] [0,7,8,9] (qs (.block 0 (.loop (qR [Qv 10 .lss 9 8] [0,7,8,9,10] (qs (qX 10) (qs (qs (.block 1 (qR [Qx 11 4 7 9,Ql 12 4 11,qa 6 (.alloc 118 Zc12),QS 4 6 12] [0,6,7,8,9] (qR [Qm 13 0,qa 14 (.bin .add (.t 13) (.c (.str [32]))),Qm 0 14] [0,6,7,8,9] (qs (qR [Qa 15 0 6,Qo 16 15,qa 17 (.index (.t 16) (qi 0)),qa 18 (.bin .eql (.t 17) (.c (.int .u8 124))),Qm 19 18,qc 20 19 (fa 0 6),qc 21 19 (lo 20),qc 22 19 (.index (.t 21) (qi 0)),qc 23 19 (.bin .eql (.t 22) (.c (.int .u8 92))),Qq 24 19 23] [0,6,7,8,9,24] (.cond (.t 24) (qr [Qm 25 0,qa 26 (.bin .add (.t 25) (.c (.str [92]))),Qm 0 26] [0,6,7,8,9]) .skip)) (qr [Qm 27 0,Qa 28 0 6,Qo 29 28,Qv 30 .add 27 29,Qm 0 30] [0,7,8,9]))))) (qr [] [0,7,8,9])) (qr [Qu 31 .add 9 1,Qm 9 31] [0,7,8,9])))))) (qr [] [0]))) (qR [Qm 32 0,Qm 4 32] [4] .ret))
def c401:FB 401 []=some (r401,s401):=by kernel_rfl
end Go.Av
namespace Go.Av
open Go Go.RowKit Go.Proofs List
def bD (p:List Stp):Bool:=decide (p=[])||decide (p=[⟨0,[]⟩])
def inR (n lo hi:Int):Bool:=decide (lo<=n)&&decide (n<=hi)
def nests (p k:Int):Bool:=
 if p=0 then decide (k=1)||decide (k=2)else if p=1 then decide (k=2)else if p=2\/p=3 then decide (k=3)||decide (k=4)||decide (k=7)else if p=4 then decide (k=5)else if p=5 then decide (k=6)else false
section
variable (G:Glob)
def f71 (n lo hi:Int):Pure G Tryz.prog 71 [.i n,.i lo,.i hi] (.bool (inR n lo hi)):=by
 refine Pure.w c71 λR hR=>?_;unfold s71 r71;(repeat' (first|(with_reducible (refine af (λh=>?_) λh=>?_)<;>(try simp only[DZ]at h))|simp only[EV,seval]));(all_goals(((refine RET.eq hR ?_;(refine congrArg AV.bool (Bool.eq_iff_iff.2 ?_);simp only[inR,EVB]at*;omega)))))
def f247 (n lo hi:Int):Pure G Tryz.prog 247 [.i n,.i lo,.i hi] (.bool (inR n lo hi)):=by
 refine Pure.w c247 λR hR=>?_;unfold s247 r247;(repeat' (first|(with_reducible (refine af (λh=>?_) λh=>?_)<;>(try simp only[DZ]at h))|simp only[EV,seval]));(all_goals(((refine RET.eq hR ?_;(refine congrArg AV.bool (Bool.eq_iff_iff.2 ?_);simp only[inR,EVB]at*;omega)))))
def f101 (p k:Int):Pure G Tryz.prog 101 [.i p,.i k] (.bool (nests p k)):=by
 refine Pure.w c101 λR hR=>?_;unfold s101 r101;(repeat' (first|(with_reducible (first|refine ae (λh=>?_) λh=>?_|refine af (λh=>?_) λh=>?_)<;>(try simp only[DZ]at h))|simp only[EV,seval]|(exfalso;omega)));(all_goals(((refine RET.eq hR ?_;((simp_all[nests];done))))))
def f143 (p k:Int):Pure G Tryz.prog 143 [.i p,.i k] (.bool (nests p k)):=by
 refine Pure.w c143 λR hR=>?_;unfold s143 r143;(repeat' (first|(with_reducible (first|refine ae (λh=>?_) λh=>?_|refine af (λh=>?_) λh=>?_)<;>(try simp only[DZ]at h))|simp only[EV,seval]));(all_goals(((refine RET.eq hR ?_;((simp_all[nests];done))))))
end
end Go.Av
