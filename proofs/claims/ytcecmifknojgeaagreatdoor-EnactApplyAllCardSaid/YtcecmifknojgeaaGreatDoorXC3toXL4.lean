/-
  THE TRANSLATED CODE. Printed by mkcode2.py.
-/
import Derived.Test.YtcecmifknojgeaaGreatDoorXOpenGtoXCS
import Derived.Test.YtcecmifknojgeaaGreatDoorXAv24toXAv26
import Derived.Test.YtcecmifknojgeaaGreatDoorProg
import Derived.Test.YtcecmifknojgeaaGreatDoorXC1
import Derived.Test.YtcecmifknojgeaaGreatDoorXC2
namespace Go.Av
open Go List
set_option linter.unusedSimpArgs false
set_option linter.unusedVariables false
def r29:RL:=[(4,none)]
def s29:SCode:=qR [Qb 2 8 0,Qb 3 8 1,Qf 4] [2,3] (qR [Qa 5 0 2,Ql 6 3 5,Qa 7 0 3,Ql 8 3 7,qa 9 (.eqs false [1,1,1] (.t 6) (.t 8)),Qm 10 9,qb 11 10 (fa 3 2),qb 12 10 (lo 11),qb 13 10 (fa 3 3),qb 14 10 (lo 13),qb 15 10 (.bin .eql (.t 12) (.t 14)),Qp 16 10 15,Qm 17 16,qb 18 17 (fa 4 2),qb 19 17 (lo 18),qb 20 17 (fa 4 3),qb 21 17 (lo 20),qb 22 17 (.bin .eql (.t 19) (.t 21)),Qp 23 17 22,Qm 24 23,qb 25 24 (fa 5 2),qb 26 24 (lo 25),qb 27 24 (fa 5 3),qb 28 24 (lo 27),qb 29 24 (.call (.f 46) [.t 26,.t 28]),Qp 30 24 29,Qm 31 30,qb 32 31 (fa 6 2),qb 33 31 (lo 32),qb 34 31 (fa 6 3),qb 35 31 (lo 34),qb 36 31 (.call (.f 46) [.t 33,.t 35]),Qp 37 31 36,Qm 38 37,qb 39 38 (fa 7 2),qb 40 38 (lo 39),qb 41 38 (fa 7 3),qb 42 38 (lo 41),qb 43 38 (.call (.f 47) [.t 40,.t 42,.f 29]),Qp 44 38 43,Qm 4 44] [4] .ret)
theorem c29:FB 29 [2000002,2000003]=some (r29,s29):=by kernel_rfl
def r38:RL:=[(2,none)]
def s38:SCode:=qR [Qb 1 25 0,Qf 2] [1] (qs (.drawT (.step (Qa 8 0 1) (.step (qa 9 (.loadF false 1 (.t 8))) (.both (.step (Q0 7 66) (.both (.step (qa 10 (.raw (.lookup 109 (.tmp 7) (.tmp 9) true))) (.step (Qm 6 10) (.step (Qe 11 0 6) (.step (Qe 12 1 6) (.step (qa 3 (.alloc 107 [.sc .nilFunc,.sc .nilFunc])) (.step (QS 2 3 11) (.step (Qm 4 12) .done))))))) (.step (qa 3 (.alloc 107 [.sc .nilFunc,.sc .nilFunc])) (.step (qa 10 (.raw (.lookup 109 (.tmp 7) (.tmp 9) true))) (.step (Qm 6 10) (.step (Qe 11 0 6) (.step (Qe 12 1 6) (.step (QS 2 3 11) (.step (Qm 4 12) .done))))))))) (.step (qa 3 (.alloc 107 [.sc .nilFunc,.sc .nilFunc])) (.step (Q0 7 66) (.step (qa 10 (.raw (.lookup 109 (.tmp 7) (.tmp 9) true))) (.step (Qm 6 10) (.step (Qe 11 0 6) (.step (Qe 12 1 6) (.step (QS 2 3 11) (.step (Qm 4 12) .done))))))))))) [1,3,4]) (qs (qR [Qm 13 4,Qr 14 13] [1,3,14] (.cond (.t 14) (qR [Qf 2] [2] .ret) .skip)) (qR [Qa 15 0 3,Qo 16 15,Ql 17 25 1,qa 18 (.call (.t 16) [.t 17]),qa 5 (.alloc 34 zItm),QS 25 5 18] [1,3,5] (qR [Qa 19 0 1,Qo 20 19,Qa 21 0 5,QS 1 21 20] [1,3,5] (qs (qR [Qa 22 0 1,Qo 23 22,Q1 24 41 23] [1,3,5,24] (.cond (.t 24) (qs (.drawL [Qa 25 1 1,qa 26 (.loadF false 1 (.t 25)),Qa 27 16 1,qa 28 (.loadF false 1 (.t 27)),Qa 29 17 1,Qs 30 3 29,Qa 31 1 5,QS 1 31 26,Qa 32 16 5,QS 1 32 28,Qa 33 17 5,QS 3 33 30] [1,3,5]) (qR [Qa 34 1 1,Qo 35 34,Q1 36 67 35,Qr 37 36,Qm 38 37,qc 39 38 (fa 16 1),qc 40 38 (lo 39),qc 41 38 (.bin .neq (.t 40) (.c (.str []))),Ym 42 38 41,qb 43 42 (fa 16 1),qb 44 42 (lo 43),qb 45 42 (.call (.f 68) [.t 44]),qb 46 42 (.not (.t 45)),qc 47 38 (.pick (.t 42) (.t 46) qf),Qq 48 38 47,Qm 49 48,qc 50 49 (fa 17 1),qc 51 49 (lm 3 50),qc 52 49 (.call (.f 69) [.t 51]),qc 53 49 (.not (.t 52)),Qq 54 49 53] [1,3,5,54] (.cond (.t 54) (qR [Qf 2] [2] .ret) .skip))) .skip)) (qR [Ql 55 25 1,Ql 56 25 5,Q2 57 70 55 56,Qm 58 57,qb 59 58 (fa 1 3),qb 60 58 (lo 59),qb 61 58 (lm 25 1),qb 62 58 (.call (.t 60) [.t 61]),Qp 63 58 62,Qm 2 63] [2] .ret))))))
theorem c38:FB 38 [2000001]=some (r38,s38):=by kernel_rfl
def r41:RL:=[(2,none)]
def s41:SCode:=qR [Qf 2] [0] (qR [Qm 3 0,Qu 4 .geq 3 0,Qm 5 4,Bm 6 5 0,qb 7 5 (.bin .leq (.t 6) (qi 6)),Qp 8 5 7,Qm 2 8] [2] .ret)
theorem c41:FB 41 []=some (r41,s41):=by kernel_rfl
def r47:RL:=[(6,none)]
def s47:SCode:=qR [Qf 6] [0,1,2] (qs (qR [Qm 10 0,Qn 11 10,Qm 12 1,Qn 13 12,Qv 14 .neq 11 13] [0,1,2,14] (.cond (.t 14) (qR [Qf 6] [6] .ret) .skip)) (qs (qR [Qm 15 0,Qn 16 15,Qi 17 0] [1,2,15,16,17] (qs (.block 0 (.loop (qR [Qv 18 .lss 17 16] [1,2,15,16,17,18] (qs (qX 18) (qs (qs (.block 1 (qR [Qm 19 17,Qx 20 8 15 17,Ql 21 8 20,QU 8 27,Qm 7 19,QS 8 8 21] [1,2,7,8,15,16,17] (qR [Qm 22 1,Qm 23 7,Qx 24 8 22 23,Ql 25 8 24,QU 9 27,QS 8 9 25] [1,2,8,9,15,16,17] (qR [Qm 26 2,Ql 27 8 8,Ql 28 8 9,qa 29 (.call (.t 26) [.t 27,.t 28]),Qr 30 29] [1,2,15,16,17,30] (.cond (.t 30) (qR [Qf 6] [6] .ret) .skip))))) (qr [] [1,2,15,16,17])) (qr [Qu 31 .add 17 1,Qm 17 31] [1,2,15,16,17])))))) (qr [] []))) (qR [Qt 6] [6] .ret)))
theorem c47:FB 47 []=some (r47,s47):=by kernel_rfl
def r53:RL:=[(2,none)]
def s53:SCode:=qR [Qb 1 8 0,Qf 2] [1] (qs (qR [Qa 7 3 1,Qo 8 7,Qu 9 .eql 8 0] [1,9] (.cond (.t 9) (qR [Qa 10 4 1,Qo 11 10,qa 12 (.bin .neq (.t 11) (.c (.str []))),Qm 13 12,qc 14 13 (fa 5 1),qc 15 13 (lo 14),qc 16 13 (.len (.t 15)),qc 17 13 (fa 6 1),qc 18 13 (lo 17),qc 19 13 (.len (.t 18)),qc 20 13 (.bin .add (.t 16) (.t 19)),qc 21 13 (.bin .gtr (.t 20) (qi 0)),Qq 22 13 21] [1,22] (.cond (.t 22) (qR [Qf 2] [2] .ret) .skip)) (qR [Qa 23 3 1,Qo 24 23,Q1 25 83 24,qa 26 (.bin .eql (.t 25) (.c (.str []))),Qm 27 26,qc 28 27 (fa 4 1),qc 29 27 (lo 28),qc 30 27 (.call (.f 84) [.t 29]),qc 31 27 (.not (.t 30)),Qq 32 27 31,Qm 33 32,qc 34 33 (fa 5 1),qc 35 33 (lo 34),qc 36 33 (.call (.f 85) [.t 35]),qc 37 33 (.not (.t 36)),Qq 38 33 37,Qm 39 38,qc 40 39 (fa 6 1),qc 41 39 (lo 40),qc 42 39 (.call (.f 85) [.t 41]),qc 43 39 (.not (.t 42)),Qq 44 39 43] [1,44] (.cond (.t 44) (qR [Qf 2] [2] .ret) .skip)))) (qR [qa 45 (.raw (.makeMap 129 none)),Qm 3 45] [1,3] (qs (qR [Qa 46 7 1,Qo 47 46,Qn 48 47,Qi 49 0] [1,3,47,48,49] (qs (.block 0 (.loop (qR [Qv 50 .lss 49 48] [1,3,47,48,49,50] (qs (qX 50) (qs (qs (.block 1 (qR [Qx 51 8 47 49,Ql 52 8 51,QU 5 27,QS 8 5 52] [1,3,5,47,48,49] (qR [Qa 53 3 5,Qo 54 53,Qa 55 4 5,Qo 56 55,qa 57 (.build [.int .i64 0,.str []] [(0,(1,.t 54)),(1,(1,.t 56))]),qa 6 (.alloc 131 [.int .i64 0,.str []]),QS 2 6 57] [1,3,5,6,47,48,49] (qs (qR [Qa 58 3 1,Qo 59 58,Qa 60 3 5,Qo 61 60,Q2 62 86 59 61,Qr 63 62,Qm 64 63,Ym 65 64 3,qc 66 64 (lm 2 6),qc 67 64 (.raw (.lookup 129 (.tmp 65) (.tmp 66) false)),Qq 68 64 67] [1,3,6,47,48,49,68] (.cond (.t 68) (qR [Qf 2] [2] .ret) .skip)) (qr [Qm 69 3,Ql 70 2 6,⟨none,none,.raw (.mapUpdate 129 (.tmp 69) (.tmp 70) (.const (.bool true)))⟩] [1,3,47,48,49]))))) (qr [] [1,3,47,48,49])) (qr [Qu 71 .add 49 1,Qm 49 71] [1,3,47,48,49])))))) (qr [] [1]))) (qR [Qa 72 7 1,Qo 73 72,Qn 74 73,Qu 75 .leq 74 64,Qm 2 75] [2] .ret))))
theorem c53:FB 53 [2000001]=some (r53,s53):=by kernel_rfl
def r56:RL:=[(2,none)]
def s56:SCode:=qR [Qb 1 8 0,Qf 2] [1] (qR [Ql 8 8 1,Q1 9 30 8,Qm 3 9] [1,3] (qR [qa 10 (.raw (.makeMap 59 none)),Qm 4 10] [1,3,4] (qs (qR [Qm 11 3,Qn 12 11,Qi 13 0] [1,3,4,11,12,13] (qs (.block 0 (.loop (qR [Qv 14 .lss 13 12] [1,3,4,11,12,13,14] (qs (qX 14) (qs (qs (.block 1 (qR [Qx 15 3 11 13,Ql 16 3 15,qa 6 (.alloc 23 [.int .i64 0,.int .i64 0,.int .i64 0]),QS 3 6 16] [1,3,4,6,11,12,13] (qr [Qm 17 4,Ql 18 3 6,⟨none,none,.raw (.mapUpdate 59 (.tmp 17) (.tmp 18) (.const (.bool true)))⟩] [1,3,4,11,12,13]))) (qr [] [1,3,4,11,12,13])) (qr [Qu 19 .add 13 1,Qm 13 19] [1,3,4,11,12,13])))))) (qr [] [1,3,4]))) (qR [Qm 20 4,qa 21 (.build [.int .i64 0,.int .i64 0,.int .i64 0] []),qa 22 (.raw (.lookup 59 (.tmp 20) (.tmp 21) false)),Qm 7 22] [1,3,4,7] (qs (.drawL [Qm 23 7,Qm 24 23,Bm 25 24 4,qb 26 24 (.raw (.call (.mk (.builtin .len) #[.tmp 25] #[59]))),qb 27 24 (.bin .eql (.t 26) (qi 1)),Qp 28 24 27,Qm 29 28,Ym 30 29 4,Ym 32 29 3,qc 33 29 (.len (.t 32)),qc 31 29 (.raw (.call (.mk (.builtin .len) #[.tmp 30] #[59]))),qc 34 29 (.bin .eql (.t 31) (.t 33)),Ym 35 29 34,qb 36 35 (fa 3 1),qb 37 35 (.loadF false 1 (.t 36)),qb 38 35 (.bin .eql (.t 37) (qi 0)),qb 39 35 (fa 0 1),qb 40 35 (.loadF true 3 (.t 39)),qb 41 35 (.build [.int .i64 0,.int .i64 0,.int .i64 0] []),qb 42 35 (.eqs false [1,1,1] (.t 40) (.t 41)),qb 43 35 (.eqb false (.t 38) (.t 42)),qc 44 29 (.pick (.t 35) (.t 43) qf),Qq 45 29 44,Qm 2 45] [2]) .ret)))))
theorem c56:FB 56 [2000001]=some (r56,s56):=by kernel_rfl
def r68:RL:=[(2,none)]
def s68:SCode:=qR [Qf 2] [0] (qs (qR [Qm 3 0,QN 4 3,Qu 5 .lss 4 1,Qm 6 5,Ym 7 6 0,qc 8 6 (.lenS (.t 7)),qc 9 6 (.bin .gtr (.t 8) (qi 16)),Qq 10 6 9,Qm 11 10,Ym 12 11 0,qc 13 11 (.index (.t 12) (qi 0)),qc 14 11 (.bin .lss (.t 13) (.c (.int .u8 97))),Qq 15 11 14,Qm 16 15,Ym 17 16 0,qc 18 16 (.index (.t 17) (qi 0)),qc 19 16 (.bin .gtr (.t 18) (.c (.int .u8 122))),Qq 20 16 19] [0,20] (.cond (.t 20) (qR [Qf 2] [2] .ret) .skip)) (qR [Qm 21 0,qa 22 (.call (.f 132) [.t 21,.c (.str [97,98,99,100,101,102,103,104,105,106,107,108,109,110,111,112,113,114,115,116,117,118,119,120,121,122,48,49,50,51,52,53,54,55,56,57,45])]),qa 23 (.bin .eql (.t 22) (.c (.str []))),Qm 2 23] [2] .ret))
theorem c68:FB 68 []=some (r68,s68):=by kernel_rfl
def r83:RL:=[(2,none)]
def s83:SCode:=qR [qa 2 (.mov (.c (.str [])))] [0] (qs (qR [Qm 3 0,Qu 4 .lss 3 0,Qm 5 4,Ym 6 5 0,qc 7 5 (.bin .geq (.t 6) (qi 8)),Qq 8 5 7] [0,8] (.cond (.t 8) (qR [qa 2 (.mov (.c (.str [])))] [2] .ret) .skip)) (qR [Qm 9 0,qa 10 (.indexP 8 1 (.g 1) (.t 9)),Qo 11 10,Qm 2 11] [2] .ret))
theorem c83:FB 83 []=some (r83,s83):=by kernel_rfl
def r86:RL:=[(4,none)]
def s86:SCode:=qR [Qf 4] [0,1] (qR [Qm 5 0,Qu 6 .geq 5 0,Qm 7 6,Bm 8 7 0,qb 9 7 (.bin .lss (.t 8) (qi 8)),Qp 10 7 9,Qm 11 10,Bm 12 11 0,qb 13 11 (.indexP 8 1 (.g 2) (.t 12)),qb 14 11 (lo 13),Bm 15 11 1,qb 16 11 (.call (.f 159) [.t 14,.t 15]),Qp 17 11 16,Qm 4 17] [4] .ret)
theorem c86:FB 86 []=some (r86,s86):=by kernel_rfl
def r107:RL:=[(2,some (true,25))]
def s107:SCode:=qR [Qb 1 25 0,qa 2 (.alloc 34 zItm)] [1,2] (qR [Qa 3 3 1,Qo 4 3,Qa 5 5 1,Ql 6 8 5,qa 7 (.build zItm [(3,(1,.t 4)),(5,(8,.t 6))]),QS 25 2 7] [2] .ret)
theorem c107:FB 107 [2000001]=some (r107,s107):=by kernel_rfl
def r110:RL:=[(2,none)]
def s110:SCode:=qR [Qb 1 8 0,Qf 2] [1] (qR [Ql 6 8 1,Q1 7 178 6,Qm 5 7,Qe 8 0 5,Qe 9 1 5,Qm 3 8,Qm 4 9] [1,4] (qR [Ql 10 8 1,Q1 11 179 10,Qm 12 11,qb 13 12 (fa 3 1),qb 14 12 (lo 13),qb 15 12 (.bin .neq (.t 14) (qi 0)),Qp 16 12 15,Qm 17 16,Bm 18 17 4,qb 19 17 (.bin .eql (.t 18) (qi 0)),Qp 20 17 19,Qm 2 20] [2] .ret))
theorem c110:FB 110 [2000001]=some (r110,s110):=by kernel_rfl
def r113:RL:=[(2,some (true,25))]
def s113:SCode:=qR [Qb 1 25 0,qa 2 (.alloc 34 zItm)] [1,2] (qR [Qa 3 13 1,Qo 4 3,Qa 5 14 1,Qo 6 5,Qa 7 4 1,Qo 8 7,qa 9 (.build zItm [(13,(1,.t 4)),(14,(1,.t 6)),(4,(1,.t 8))]),QS 25 2 9] [2] .ret)
theorem c113:FB 113 [2000001]=some (r113,s113):=by kernel_rfl
def r116:RL:=[(2,none)]
def s116:SCode:=qR [Qb 1 25 0,Qf 2] [1] (qR [Qa 3 4 1,Qo 4 3,qa 5 (.call (.f 127) [.t 4,qi 0,qi 256]),Qm 2 5] [2] .ret)
theorem c116:FB 116 [2000001]=some (r116,s116):=by kernel_rfl
def r119:RL:=[(2,some (true,25))]
def s119:SCode:=qR [Qb 1 25 0,qa 2 (.alloc 34 zItm)] [1,2] (qR [Qa 3 14 1,Qo 4 3,qa 5 (.build zItm [(14,(1,.t 4))]),QS 25 2 5] [2] .ret)
theorem c119:FB 119 [2000001]=some (r119,s119):=by kernel_rfl
def r122:RL:=[(2,none)]
def s122:SCode:=qR [Qb 1 25 0,Qf 2] [1] (qR [Qa 3 15 1,Qo 4 3,Q1 5 84 4,Qm 2 5] [2] .ret)
theorem c122:FB 122 [2000001]=some (r122,s122):=by kernel_rfl
def r125:RL:=[(2,some (true,25))]
def s125:SCode:=qR [Qb 1 25 0,qa 2 (.alloc 34 zItm)] [1,2] (qR [Qa 3 23 1,Qo 4 3,Qa 5 22 1,Qo 6 5,qa 7 (.build zItm [(23,(1,.t 4)),(22,(1,.t 6))]),QS 25 2 7] [2] .ret)
theorem c125:FB 125 [2000001]=some (r125,s125):=by kernel_rfl
def r128:RL:=[(2,some (true,25))]
def s128:SCode:=qR [Qb 1 25 0,qa 2 (.alloc 34 zItm)] [1,2] (qR [Qa 3 20 1,Qo 4 3,Qa 5 21 1,Qo 6 5,Qa 7 24 1,Qo 8 7,qa 9 (.build zItm [(20,(1,.t 4)),(21,(1,.t 6)),(24,(1,.t 8))]),QS 25 2 9] [2] .ret)
theorem c128:FB 128 [2000001]=some (r128,s128):=by kernel_rfl
def r131:RL:=[(2,none)]
def s131:SCode:=qR [Qb 1 2 0,Qf 2] [1] (qR [Qa 3 0 1,Qo 4 3,Qu 5 .eql 4 0,Qm 6 5,qb 7 6 (fa 1 1),qb 8 6 (lo 7),qb 9 6 (.bin .eql (.t 8) (.c (.str []))),Qp 10 6 9,Qm 2 10] [2] .ret)
theorem c131:FB 131 [2000001]=some (r131,s131):=by kernel_rfl
def r134:RL:=[(4,none)]
def s134:SCode:=qR [Qf 4] [0,1] (qs (qR [Qm 6 0,Qn 7 6,Qm 8 1,Qn 9 8,Qv 10 .neq 7 9] [0,1,10] (.cond (.t 10) (qR [Qf 4] [4] .ret) .skip)) (qs (qR [Qm 11 0,Qn 12 11,Qi 13 0] [0,1,12,13] (qs (.block 0 (.loop (qR [Qv 14 .lss 13 12] [0,1,12,13,14] (qs (qX 14) (qs (qs (.block 1 (qR [Qm 15 13,Qm 5 15] [0,1,5,12,13] (qs (.draw [Qm 16 0,Qm 17 5,Qx 18 1 16 17,Qo 19 18,Qm 20 1,Qm 21 5,Qx 22 1 20 21,Qo 23 22,Qv 24 .neq 19 23] [0,1,12,13,24]) (.cond (.t 24) (qR [Qf 4] [4] .ret) .skip)))) (qr [] [0,1,12,13])) (qr [Qu 25 .add 13 1,Qm 13 25] [0,1,12,13])))))) (qr [] []))) (qR [Qt 4] [4] .ret)))
theorem c134:FB 134 []=some (r134,s134):=by kernel_rfl
def r137:RL:=[(6,none)]
def s137:SCode:=qR [Qf 6] [0,1,2] (qR [Qm 7 0,Qm 8 1,Qv 9 .geq 7 8,Qm 10 9,Bm 11 10 0,Bm 12 10 2,qb 13 10 (.bin .leq (.t 11) (.t 12)),Qp 14 10 13,Qm 6 14] [6] .ret)
theorem c137:FB 137 []=some (r137,s137):=by kernel_rfl
def r140:RL:=[(2,none)]
def s140:SCode:=qR [Qf 2] [0] (qs (qR [Qm 4 0,Qn 5 4,Qu 6 .gtr 5 9] [0,6] (.cond (.t 6) (qR [Qf 2] [2] .ret) .skip)) (qs (qR [Qi 3 0] [0,3] (qs (.block 0 (.loop (qs (qR [Qm 7 3,Qm 8 0,Qn 9 8,Qv 10 .lss 7 9] [0,3,10] (qX 10)) (qs (qs (.block 1 (qs (qR [Qm 13 3,Qu 14 .eql 13 0,Qm 15 14,Bm 16 15 0,Bm 17 15 3,qb 18 15 (.indexA 2 (.t 16) (.t 17)),qb 19 15 (lm 2 18),qb 20 15 (.call (.f 193) [.t 19]),Qp 21 15 20] [0,3,21] (.cond (.t 21) (.exit 1) .skip)) (qR [Qm 22 0,Qm 23 3,Qx 24 2 22 23,Qa 25 0 24,Qo 26 25,Qu 27 .lss 26 1,Qm 28 27,Ym 29 28 0,Ym 30 28 3,qc 31 28 (.indexA 2 (.t 29) (.t 30)),qc 32 28 (fa 0 31),qc 33 28 (lo 32),qc 34 28 (.bin .gtr (.t 33) (qi 7)),Qq 35 28 34,Qm 36 35,Ym 37 36 0,Ym 38 36 3,qc 39 36 (.indexA 2 (.t 37) (.t 38)),qc 40 36 (fa 1 39),qc 41 36 (lo 40),qc 42 36 (.call (.f 146) [.t 41]),qc 43 36 (.not (.t 42)),Qq 44 36 43] [0,3,44] (.cond (.t 44) (qR [Qf 2] [2] .ret) .skip)))) (qr [] [0,3])) (qr [Qm 11 3,Qu 12 .add 11 1,Qm 3 12] [0,3]))))) (qr [] []))) (qR [Qt 2] [2] .ret)))
theorem c140:FB 140 []=some (r140,s140):=by kernel_rfl
def r143:RL:=[(2,none),(3,none)]
def s143:SCode:=qR [Qb 1 8 0,qa 2 (.mov (.c (.str []))),Qi 3 0] [1] (qs (qR [Ql 7 8 1,Q1 8 194 7,Qr 9 8] [1,9] (.cond (.t 9) (qR [qa 2 (.mov (.c (.str []))),Qi 3 1] [2,3] .ret) .skip)) (qR [Ql 10 8 1,Q1 11 195 10,Qm 4 11] [4] (qR [qa 5 (.mov (.c (.str [])))] [4,5] (qs (qR [Qi 6 0] [4,5,6] (qs (.block 0 (.loop (qs (qR [Qm 12 6,Qm 13 4,Qn 14 13,Qv 15 .lss 12 14] [4,5,6,15] (qX 15)) (qs (qs (.block 1 (qr [Qm 18 5,Qm 19 4,Qm 20 6,Qx 21 1 19 20,Qo 22 21,Qv 23 .add 18 22,qa 24 (.bin .add (.t 23) (.c (.str [10]))),Qm 5 24] [4,5,6])) (qr [] [4,5,6])) (qr [Qm 16 6,Qu 17 .add 16 1,Qm 6 17] [4,5,6]))))) (qr [] [5]))) (qs (qR [Qm 25 5,QN 26 25,Qu 27 .gtr 26 16384] [5,27] (.cond (.t 27) (qR [qa 2 (.mov (.c (.str []))),Qi 3 6] [2,3] .ret) .skip)) (qR [Qm 28 5,Qm 2 28,Qi 3 0] [2,3] .ret))))))
theorem c143:FB 143 [2000001]=some (r143,s143):=by kernel_rfl
def r146:RL:=[(2,none)]
def s146:SCode:=qR [Qf 2] [0] (qR [Qm 5 0,Q1 6 199 5,Qm 3 6] [0,3] (qs (qR [Qm 7 3,Qu 8 .lss 7 1,Qm 9 8,Ym 10 9 3,qc 11 9 (.bin .gtr (.t 10) (qi 4)),Qq 12 9 11,Qm 13 12,Ym 14 13 0,qc 15 13 (.index (.t 14) (qi 0)),qc 16 13 (.bin .eql (.t 15) (.c (.int .u8 48))),Qq 17 13 16,Qm 18 17,Ym 19 18 0,qc 20 18 (.lenS (.t 19)),Ym 21 18 3,qc 22 18 (.bin .sub (.t 20) (.t 21)),qc 23 18 (.bin .gtr (.t 22) (qi 3)),Qq 24 18 23] [0,3,24] (.cond (.t 24) (qR [Qf 2] [2] .ret) .skip)) (qs (qR [Qm 25 3,Qm 4 25] [0,4] (qs (.block 0 (.loop (qs (qR [Qm 26 4,Qm 27 0,QN 28 27,Qv 29 .lss 26 28] [0,4,29] (qX 29)) (qs (qs (.block 1 (qR [Qm 32 0,Qm 33 4,QI 34 32 33,qa 35 (.bin .lss (.t 34) (.c (.int .u8 65))),Qm 36 35,Ym 37 36 0,Ym 38 36 4,qc 39 36 (.index (.t 37) (.t 38)),qc 40 36 (.bin .gtr (.t 39) (.c (.int .u8 90))),Qq 41 36 40] [0,4,41] (.cond (.t 41) (qR [Qf 2] [2] .ret) .skip))) (qr [] [0,4])) (qr [Qm 30 4,Qu 31 .add 30 1,Qm 4 31] [0,4]))))) (qr [] []))) (qR [Qt 2] [2] .ret))))
theorem c146:FB 146 []=some (r146,s146):=by kernel_rfl
def r149:RL:=[(2,none)]
def s149:SCode:=qR [Qb 1 8 0,Qi 2 0] [1] (qR [Qi 3 1] [1,3] (qs (qR [Qi 4 0] [1,3,4] (qs (.block 0 (.loop (qs (qR [Qm 5 4,Qa 6 7 1,Qo 7 6,Qn 8 7,Qv 9 .lss 5 8] [1,3,4,9] (qX 9)) (qs (qs (.block 1 (qr [Qm 12 3,Qa 13 7 1,Qo 14 13,Qm 15 4,Qx 16 8 14 15,Ql 17 8 16,Q1 18 149 17,Qv 19 .add 12 18,Qm 3 19] [1,3,4])) (qr [] [1,3,4])) (qr [Qm 10 4,Qu 11 .add 10 1,Qm 4 11] [1,3,4]))))) (qr [] [3]))) (qR [Qm 20 3,Qm 2 20] [2] .ret)))
theorem c149:FB 149 [2000001]=some (r149,s149):=by kernel_rfl
def r155:RL:=[(2,none),(3,none)]
def s155:SCode:=qR [qa 2 (.mov (.c (.str []))),qa 3 (.mov (.c (.str [])))] [0] (qR [Qm 5 0,qa 6 (.call (.f 203) [.t 5,.f 204]),Qm 4 6] [0,4] (qs (qR [Qm 7 4,Qu 8 .lss 7 0] [0,4,8] (.cond (.t 8) (qR [Qm 9 0,Qm 2 9,qa 3 (.mov (.c (.str [])))] [2,3] .ret) .skip)) (qs (.drawL [Qm 10 0,Qm 11 4,qa 12 (.sliceS (.t 10) none (some (.t 11))),Qm 13 0,Qm 14 4,qa 15 (.sliceS (.t 13) (some (.t 14)) none),Qm 2 12,Qm 3 15] [2,3]) .ret)))
theorem c155:FB 155 []=some (r155,s155):=by kernel_rfl
def r158:RL:=[(2,none)]
def s158:SCode:=qR [Qf 2] [0] (qR [Qm 3 0,Qn 4 3,Qu 5 .leq 4 256,Qm 6 5,Bm 7 6 0,qb 8 6 (.call (.f 205) [.t 7,.f 206]),qb 9 6 (.not (.t 8)),Qp 10 6 9,Qm 2 10] [2] .ret)
theorem c158:FB 158 []=some (r158,s158):=by kernel_rfl
def r179:RL:=[(2,none)]
def s179:SCode:=qR [Qb 1 8 0,Qf 2] [1] (qR [Ql 3 8 1,Q1 4 34 3,Qm 5 4,qb 6 5 (lm 8 1),qb 7 5 (.call (.f 48) [.t 6,.f 214]),Qp 8 5 7,Qm 2 8] [2] .ret)
theorem c179:FB 179 [2000001]=some (r179,s179):=by kernel_rfl
def r191:RL:=[(4,none)]
def s191:SCode:=qR [Qf 4] [0,1] (qs (qR [Qm 6 0,Qn 7 6,Qm 8 1,Qn 9 8,Qv 10 .neq 7 9] [0,1,10] (.cond (.t 10) (qR [Qf 4] [4] .ret) .skip)) (qs (qR [Qi 5 0] [0,1,5] (qs (.block 0 (.loop (qs (qR [Qm 11 5,Qm 12 0,Qn 13 12,Qv 14 .lss 11 13] [0,1,5,14] (qX 14)) (qs (qs (.block 1 (qs (.draw [Qm 17 0,Qm 18 5,Qx 19 1 17 18,Qo 20 19,Qm 21 1,Qm 22 5,Qx 23 1 21 22,Qo 24 23,Qv 25 .neq 20 24] [0,1,5,25]) (.cond (.t 25) (qR [Qf 4] [4] .ret) .skip))) (qr [] [0,1,5])) (qr [Qm 15 5,Qu 16 .add 15 1,Qm 5 16] [0,1,5]))))) (qr [] []))) (qR [Qt 4] [4] .ret)))
theorem c191:FB 191 []=some (r191,s191):=by kernel_rfl
def r194:RL:=[(2,none)]
def s194:SCode:=qR [Qb 1 8 0,Qf 2] [1] (qR [Ql 3 8 1,qa 4 (.call (.f 222) [.t 3,qi 0]),Qm 5 4,qb 6 5 (lm 8 1),qb 7 5 (.call (.f 149) [.t 6]),qb 8 5 (.bin .leq (.t 7) (qi 1024)),Qp 9 5 8,Qm 2 9] [2] .ret)
theorem c194:FB 194 [2000001]=some (r194,s194):=by kernel_rfl
def r197:RL:=[(2,some (true,8))]
def s197:SCode:=qR [Qb 1 8 0,QU 2 27] [1,2] (qs (.drawT (.step (Qa 5 3 1) (.step (qa 6 (.loadF false 1 (.t 5))) (.step (Qa 7 4 1) (.step (qa 8 (.loadF false 1 (.t 7))) (.step (Qa 9 5 1) (.step (qa 10 (.loadF false 1 (.t 9))) (.step (Qa 12 6 1) (.step (qa 13 (.loadF false 1 (.t 12))) (.both (.step (Q1 11 228 10) (.both (.step (Q1 14 228 13) (.step (qa 15 (.build zU [(3,(1,.t 6)),(4,(1,.t 8)),(5,(1,.t 11)),(6,(1,.t 14))])) (.step (QU 3 27) (.step (QS 8 3 15) .done)))) (.step (QU 3 27) (.step (Q1 14 228 13) (.step (qa 15 (.build zU [(3,(1,.t 6)),(4,(1,.t 8)),(5,(1,.t 11)),(6,(1,.t 14))])) (.step (QS 8 3 15) .done)))))) (.step (QU 3 27) (.step (Q1 11 228 10) (.step (Q1 14 228 13) (.step (qa 15 (.build zU [(3,(1,.t 6)),(4,(1,.t 8)),(5,(1,.t 11)),(6,(1,.t 14))])) (.step (QS 8 3 15) .done)))))))))))))) [1,2,3]) (qs (qR [Qi 4 0] [1,2,3,4] (qs (.block 0 (.loop (qs (qR [Qm 16 4,Qa 17 7 1,Qo 18 17,Qn 19 18,Qv 20 .lss 16 19] [1,2,3,4,20] (qX 20)) (qs (qs (.block 1 (.drawT (.step (Qa 23 7 3) (.step (Qa 25 7 1) (.step (qa 26 (.loadF false 1 (.t 25))) (.step (Qm 27 4) (.step (Qx 28 8 26 27) (.both (.step (Qo 24 23) (.step (Ql 29 8 28) (.step (Q1 30 197 29) (.step (qa 31 (.buildS 27 8 1 zU [(0,.t 30)])) (.step (Qw 32 27 8 120 24 31) (.step (Qa 33 7 3) (.step (QS 1 33 32) .done))))))) (.step (Ql 29 8 28) (.both (.step (Qo 24 23) (.step (Q1 30 197 29) (.step (qa 31 (.buildS 27 8 1 zU [(0,.t 30)])) (.step (Qw 32 27 8 120 24 31) (.step (Qa 33 7 3) (.step (QS 1 33 32) .done)))))) (.step (Q1 30 197 29) (.both (.step (Qo 24 23) (.step (qa 31 (.buildS 27 8 1 zU [(0,.t 30)])) (.step (Qw 32 27 8 120 24 31) (.step (Qa 33 7 3) (.step (QS 1 33 32) .done))))) (.step (qa 31 (.buildS 27 8 1 zU [(0,.t 30)])) (.step (Qo 24 23) (.step (Qw 32 27 8 120 24 31) (.step (Qa 33 7 3) (.step (QS 1 33 32) .done))))))))))))))) [1,2,3,4])) (qr [] [1,2,3,4])) (qr [Qm 21 4,Qu 22 .add 21 1,Qm 4 22] [1,2,3,4]))))) (qr [] [2,3]))) (qR [Ql 34 8 3,QS 8 2 34] [2] .ret)))
theorem c197:FB 197 [2000001]=some (r197,s197):=by kernel_rfl
def r206:RL:=[(2,none)]
def s206:SCode:=qR [Qf 2] [0] (qR [Qm 3 0,Q1 4 207 3,Qr 5 4,Qm 2 5] [2] .ret)
theorem c206:FB 206 []=some (r206,s206):=by kernel_rfl
def r212:RL:=[(2,none)]
def s212:SCode:=qR [Qb 1 8 0,Qz 2] [1] (qs (qR [Ql 5 8 1,Q1 6 243 5,Q1 7 34 6,Qr 8 7] [1,8] (.cond (.t 8) (qR [Qz 2] [2] .ret) .skip)) (qR [qa 3 (.alloc 29 [.nil])] [1,3] (qR [qa 4 (.alloc 230 [.sc .nilFunc])] [1,3,4] (qR [qa 9 (.mkfun (.func 244) [] [.t 3,.t 4]),QS 1 4 9] [1,3,4] (qR [Qo 10 4,Ql 11 8 1,qa 12 (.call (.t 10) [.t 11,qi 0])] [3] (qR [Qo 13 3,Qm 2 13] [2] .ret))))))
theorem c212:FB 212 [2000001]=some (r212,s212):=by kernel_rfl
def r215:RL:=[(2,none)]
def s215:SCode:=qR [Qb 1 4 0,Qf 2] [1] (qR [Qa 3 1 1,Ql 4 3 3,qa 5 (.build [.int .i64 0,.int .i64 0,.int .i64 0] []),qa 6 (.eqs true [1,1,1] (.t 4) (.t 5)),Qm 2 6] [2] .ret)
theorem c215:FB 215 [2000001]=some (r215,s215):=by kernel_rfl
def r221:RL:=[(4,none)]
def s221:SCode:=qR [Qf 4] [0,1] (qs (qR [Qm 6 0,Qn 7 6,Qm 8 1,Qn 9 8,Qv 10 .neq 7 9] [0,1,10] (.cond (.t 10) (qR [Qf 4] [4] .ret) .skip)) (qs (qR [Qi 5 0] [0,1,5] (qs (.block 0 (.loop (qs (qR [Qm 11 5,Qm 12 0,Qn 13 12,Qv 14 .lss 11 13] [0,1,5,14] (qX 14)) (qs (qs (.block 1 (qs (.draw [Qm 17 0,Qm 18 5,Qx 19 4 17 18,Ql 20 4 19,Qm 21 1,Qm 22 5,Qx 23 4 21 22,Ql 24 4 23,qa 25 (.eqs true [2,1,1,1] (.t 20) (.t 24))] [0,1,5,25]) (.cond (.t 25) (qR [Qf 4] [4] .ret) .skip))) (qr [] [0,1,5])) (qr [Qm 15 5,Qu 16 .add 15 1,Qm 5 16] [0,1,5]))))) (qr [] []))) (qR [Qt 4] [4] .ret)))
theorem c221:FB 221 []=some (r221,s221):=by kernel_rfl
def r224:RL:=[(2,none)]
def s224:SCode:=qR [Qb 1 8 0,Qf 2] [1] (qs (qR [Ql 5 8 1,Q1 6 255 5,Qr 7 6] [1,7] (.cond (.t 7) (qR [Qf 2] [2] .ret) .skip)) (qs (qR [Qi 3 0] [1,3] (qs (.block 0 (.loop (qs (qR [Qm 8 3,Qa 9 7 1,Qo 10 9,Qn 11 10,Qv 12 .lss 8 11] [1,3,12] (qX 12)) (qs (qs (.block 1 (qs (qs (.drawL [Qa 15 3 1,qa 16 (.loadF false 1 (.t 15)),Qa 17 7 1,qa 18 (.loadF false 1 (.t 17)),Qm 19 3,Qx 20 8 18 19,Qa 21 3 20,Qo 22 21,Q2 23 256 16 22,Qr 24 23,Qm 25 24,qc 26 25 (fa 7 1),qc 27 25 (.loadF false 1 (.t 26)),Ym 28 25 3,qc 29 25 (.indexA 8 (.t 27) (.t 28)),qc 30 25 (lm 8 29),qc 31 25 (.call (.f 224) [.t 30]),qc 32 25 (.not (.t 31)),Qq 33 25 32] [1,3,33]) (.cond (.t 33) (qR [Qf 2] [2] .ret) .skip)) (qR [Qi 4 0] [1,3,4] (qs (.block 2 (.loop (qs (qR [Qm 34 4,Qm 35 3,Qv 36 .lss 34 35] [1,3,4,36] (.cond (.t 36) .skip (.exit 2))) (qs (qs (.block 3 (qs (.draw [Qa 39 7 1,Qo 40 39,Qm 41 4,Qx 42 8 40 41,Qa 43 3 42,Qo 44 43,Qa 45 7 1,Qo 46 45,Qm 47 3,Qx 48 8 46 47,Qa 49 3 48,Qo 50 49,Qv 51 .eql 44 50,Qm 52 51,qb 53 52 (fa 7 1),qb 54 52 (lo 53),Bm 55 52 4,qb 56 52 (.indexA 8 (.t 54) (.t 55)),qb 57 52 (fa 4 56),qb 58 52 (lo 57),qb 59 52 (fa 7 1),qb 60 52 (lo 59),Bm 61 52 3,qb 62 52 (.indexA 8 (.t 60) (.t 61)),qb 63 52 (fa 4 62),qb 64 52 (lo 63),qb 65 52 (.bin .eql (.t 58) (.t 64)),Qp 66 52 65] [1,3,4,66]) (.cond (.t 66) (qR [Qf 2] [2] .ret) .skip))) (qr [] [1,3,4])) (qr [Qm 37 4,Qu 38 .add 37 1,Qm 4 38] [1,3,4]))))) (qr [] [1,3]))))) (qr [] [1,3])) (qr [Qm 13 3,Qu 14 .add 13 1,Qm 3 14] [1,3]))))) (qr [] []))) (qR [Qt 2] [2] .ret)))
theorem c224:FB 224 [2000001]=some (r224,s224):=by kernel_rfl
def r227:RL:=[(2,none)]
def s227:SCode:=qR [Qb 1 8 0,Qf 2] [1] (qR [Ql 8 8 1,Q1 9 257 8,Qm 3 9] [1,3] (qR [Qt 4] [1,3,4] (qs (qR [Qi 5 0] [1,3,4,5] (qs (.block 0 (.loop (qs (qR [Qm 10 5,Qm 11 3,Qn 12 11,Qv 13 .lss 10 12] [1,3,4,5,13] (qX 13)) (qs (qs (.block 1 (qr [Qm 16 4,Qm 17 16,Bm 18 17 3,Bm 19 17 5,qb 20 17 (.indexA 3 (.t 18) (.t 19)),qb 21 17 (lm 3 20),qb 22 17 (.build [.int .i64 0,.int .i64 0,.int .i64 0] []),qb 23 17 (.eqs false [1,1,1] (.t 21) (.t 22)),Qp 24 17 23,Qm 4 24] [1,3,4,5])) (qr [] [1,3,4,5])) (qr [Qm 14 5,Qu 15 .add 14 1,Qm 5 15] [1,3,4,5]))))) (qr [] [1,3,4]))) (qs (qR [Qm 25 4] [1,3,25] (.cond (.t 25) (qR [Qt 2] [2] .ret) .skip)) (qs (qs (.drawL [Qm 26 3,qa 27 (.indexA 3 (.t 26) (qi 0)),qa 29 (.build [.int .i64 0,.int .i64 0,.int .i64 0] []),Qa 31 3 1,qa 32 (.loadF false 1 (.t 31)),Qu 33 .eql 32 0,Ql 28 3 27,qa 30 (.eqs false [1,1,1] (.t 28) (.t 29)),qa 34 (.eqb true (.t 30) (.t 33))] [3,34]) (.cond (.t 34) (qR [Qf 2] [2] .ret) .skip)) (qs (qR [Qi 6 0] [3,6] (qs (.block 2 (.loop (qs (qR [Qm 35 6,Qm 36 3,Qn 37 36,Qv 38 .lss 35 37] [3,6,38] (.cond (.t 38) .skip (.exit 2))) (qs (qs (.block 3 (qR [Qi 7 0] [3,6,7] (qs (.block 4 (.loop (qs (qR [Qm 41 7,Qm 42 6,Qv 43 .lss 41 42] [3,6,7,43] (.cond (.t 43) .skip (.exit 4))) (qs (qs (.block 5 (qs (.draw [Qm 46 3,Qm 47 7,Qx 48 3 46 47,Ql 49 3 48,Qm 50 3,Qm 51 6,Qx 52 3 50 51,Ql 53 3 52,qa 54 (.eqs false [1,1,1] (.t 49) (.t 53))] [3,6,7,54]) (.cond (.t 54) (qR [Qf 2] [2] .ret) .skip))) (qr [] [3,6,7])) (qr [Qm 44 7,Qu 45 .add 44 1,Qm 7 45] [3,6,7]))))) (qr [] [3,6])))) (qr [] [3,6])) (qr [Qm 39 6,Qu 40 .add 39 1,Qm 6 40] [3,6]))))) (qr [] []))) (qR [Qt 2] [2] .ret)))))))
theorem c227:FB 227 [2000001]=some (r227,s227):=by kernel_rfl
def r233:RL:=[(4,none)]
def s233:SCode:=qR [Qf 4] [0,1] (qR [Qm 5 0,Qm 6 1,Q2 7 258 5 6,Qu 8 .geq 7 0,Qm 4 8] [4] .ret)
theorem c233:FB 233 []=some (r233,s233):=by kernel_rfl
def r245:RL:=[(4,none)]
def s245:SCode:=qR [Qb 2 8 0,qa 4 (.mov (.c (.str [])))] [1,2] (qs (qR [Ql 6 8 2,Qm 7 1,Q2 8 259 6 7,Qr 9 8] [1,2,9] (.cond (.t 9) (qR [qa 4 (.mov (.c (.str [])))] [4] .ret) .skip)) (qs (.drawL [Qm 10 1,Qa 12 3 2,qa 13 (.loadF false 1 (.t 12)),qa 11 (.call (.f 260) [.c (.str [32,32]),.t 10]),Q1 14 83 13,Qv 15 .add 11 14,Qm 5 15] [2,5]) (qs (qR [Qa 16 3 2,Qo 17 16,Qu 18 .neq 17 0] [2,5,18] (.cond (.t 18) (qr [Qm 19 5,Qa 20 4 2,Qo 21 20,qa 22 (.bin .add (.c (.str [32])) (.t 21)),Qv 23 .add 19 22,Qm 5 23] [2,5]) .skip)) (qs (qR [Qa 24 5 2,Qo 25 24,Qn 26 25,Qu 27 .gtr 26 0] [2,5,27] (.cond (.t 27) (qr [Qm 28 5,qa 29 (.bin .add (.t 28) (.c (.str [58]))),Qa 30 5 2,Qo 31 30,Q2 32 261 29 31,Qm 5 32] [2,5]) .skip)) (qs (qR [Qa 33 6 2,Qo 34 33,Qn 35 34,Qu 36 .gtr 35 0] [2,5,36] (.cond (.t 36) (qr [Qm 37 5,qa 38 (.bin .add (.t 37) (.c (.str [32,124]))),Qa 39 6 2,Qo 40 39,Q2 41 261 38 40,Qm 5 41] [5]) .skip)) (qR [Qm 42 5,Qm 4 42] [4] .ret))))))
theorem c245:FB 245 [2000002]=some (r245,s245):=by kernel_rfl
def r254:RL:=[(4,none)]
def s254:SCode:=qR [Qb 2 8 0,qa 4 (.mov (.c (.str [])))] [1,2] (qs (qR [Qm 7 1,Qu 8 .lss 7 0,Qm 9 8,Ym 10 9 1,qc 11 9 (.bin .gtr (.t 10) (qi 8)),Qq 12 9 11,Qm 13 12,qc 14 13 (lm 8 2),qc 15 13 (.call (.f 253) [.t 14]),qc 16 13 (.not (.t 15)),Qq 17 13 16] [1,2,17] (.cond (.t 17) (qR [qa 4 (.mov (.c (.str [])))] [4] .ret) .skip)) (qR [qa 5 (.mov (.c (.str [])))] [1,2,5] (qs (qR [Qi 6 0] [1,2,5,6] (qs (.block 0 (.loop (qs (qR [Qm 18 6,Qm 19 1,Qv 20 .lss 18 19] [1,2,5,6,20] (qX 20)) (qs (qs (.block 1 (qr [Qm 23 5,qa 24 (.bin .add (.t 23) (.c (.str [32,32]))),Qm 5 24] [1,2,5,6])) (qr [] [1,2,5,6])) (qr [Qm 21 6,Qu 22 .add 21 1,Qm 6 22] [1,2,5,6]))))) (qr [] [2,5]))) (qs (.drawL [Qm 25 5,Qa 27 3 2,qa 28 (.loadF false 1 (.t 27)),Q0 26 269,Qx 29 1 26 28,Qo 30 29,Qv 31 .add 25 30,Qm 5 31] [2,5]) (qs (qR [Qa 32 3 2,Qo 33 32,Qu 34 .neq 33 0] [2,5,34] (.cond (.t 34) (qr [Qm 35 5,qa 36 (.bin .add (.t 35) (.c (.str [32]))),Qa 37 4 2,Qo 38 37,Qv 39 .add 36 38,Qm 5 39] [2,5]) .skip)) (qs (qR [Qa 40 5 2,Qo 41 40,Qn 42 41,Qu 43 .gtr 42 0] [2,5,43] (.cond (.t 43) (qr [Qm 44 5,qa 45 (.bin .add (.t 44) (.c (.str [58]))),Qa 46 5 2,Qo 47 46,Q1 48 270 47,Qv 49 .add 45 48,Qm 5 49] [2,5]) .skip)) (qs (qR [Qa 50 6 2,Qo 51 50,Qn 52 51,Qu 53 .gtr 52 0] [2,5,53] (.cond (.t 53) (qr [Qm 54 5,qa 55 (.bin .add (.t 54) (.c (.str [32,124]))),Qa 56 6 2,Qo 57 56,Q1 58 270 57,Qv 59 .add 55 58,Qm 5 59] [5]) .skip)) (qR [Qm 60 5,Qm 4 60] [4] .ret))))))))
theorem c254:FB 254 [2000002]=some (r254,s254):=by kernel_rfl
def r257:RL:=[(2,none)]
def s257:SCode:=qR [Qb 1 8 0,Qz 2] [1] (qR [Qa 5 0 1,Ql 6 3 5,qa 7 (.buildS 23 3 1 [.int .i64 0,.int .i64 0,.int .i64 0] [(0,.t 6)]),Qm 3 7] [1,3] (qs (qR [Qi 4 0] [1,3,4] (qs (.block 0 (.loop (qs (qR [Qm 8 4,Qa 9 7 1,Qo 10 9,Qn 11 10,Qv 12 .lss 8 11] [1,3,4,12] (qX 12)) (qs (qs (.block 1 (qr [Qm 15 3,Qa 16 7 1,Qo 17 16,Qm 18 4,Qx 19 8 17 18,Ql 20 8 19,Q1 21 257 20,Qw 22 23 3 24 15 21,Qm 3 22] [1,3,4])) (qr [] [1,3,4])) (qr [Qm 13 4,Qu 14 .add 13 1,Qm 4 14] [1,3,4]))))) (qr [] [3]))) (qR [Qm 23 3,Qm 2 23] [2] .ret)))
theorem c257:FB 257 [2000001]=some (r257,s257):=by kernel_rfl
def r269:RL:=[(0,none)]
def s269:SCode:=qR [Qz 0] [] (qR [qa 1 (.buildS 9 1 8 [.str [],.str [],.str [],.str [],.str [],.str [],.str [],.str []] [(0,.c (.str [98,111,111,107])),(1,.c (.str [112,97,114,116])),(2,.c (.str [115,101,99,116,105,111,110])),(3,.c (.str [112,97,114,97,103,114,97,112,104])),(4,.c (.str [116,97,98,108,101])),(5,.c (.str [114,111,119])),(6,.c (.str [99,101,108,108])),(7,.c (.str [110,111,116,101]))]),Qm 0 1] [0] .ret)
theorem c269:FB 269 []=some (r269,s269):=by kernel_rfl
def r278:RL:=[(2,none)]
def s278:SCode:=qR [Qf 2] [0] (qs (qR [Qi 3 0] [0,3] (qs (.block 0 (.loop (qs (qR [Qm 4 3,Qm 5 0,QN 6 5,Qv 7 .lss 4 6] [0,3,7] (qX 7)) (qs (qs (.block 1 (qR [Qm 10 0,Qm 11 3,QI 12 10 11,qa 13 (.bin .lss (.t 12) (.c (.int .u8 33))),Qm 14 13,Ym 15 14 0,Ym 16 14 3,qc 17 14 (.index (.t 15) (.t 16)),qc 18 14 (.bin .gtr (.t 17) (.c (.int .u8 126))),Qq 19 14 18] [0,3,19] (.cond (.t 19) (qR [Qf 2] [2] .ret) .skip))) (qr [] [0,3])) (qr [Qm 8 3,Qu 9 .add 8 1,Qm 3 9] [0,3]))))) (qr [] [0]))) (qR [Qm 20 0,QN 21 20,Qu 22 .geq 21 1,Qm 23 22,Bm 24 23 0,qb 25 23 (.lenS (.t 24)),qb 26 23 (.bin .leq (.t 25) (qi 24)),Qp 27 23 26,Qm 2 27] [2] .ret))
theorem c278:FB 278 []=some (r278,s278):=by kernel_rfl
def r302:RL:=[(2,none)]
def s302:SCode:=qR [Qb 1 25 0,Qf 2] [1] (qR [Ql 3 25 1,qa 4 (.call (.f 130) [.t 3,qi (-1)]),Qm 5 4,qb 6 5 (fa 22 1),qb 7 5 (lo 6),qb 8 5 (.call (.f 127) [.t 7,qi 0,qi 1048576]),Qp 9 5 8,Qm 2 9] [2] .ret)
theorem c302:FB 302 [2000001]=some (r302,s302):=by kernel_rfl
end Go.Av
namespace Go.Av
open Go Go.RowKit Go.Proofs List
set_option linter.unusedSimpArgs false
set_option linter.unusedVariables false
def inR (n lo hi:Int):Bool:=decide (lo<=n)&&decide (n<=hi)
def nests (p k:Int):Bool:=
 if p=0 then decide (k=1)||decide (k=2)else if p=1 then decide (k=2)else if p=2\/p=3 then decide (k=3)||decide (k=4)||decide (k=7)else if p=4 then decide (k=5)else if p=5 then decide (k=6)else false
section
variable (G:Glob)
theorem f137 (n lo hi:Int):Pure G Tryz.prog 137 [.int .i64 n,.int .i64 lo,.int .i64 hi] (.bool (inR n lo hi)):=by
 refine Pure.w c137 λR hR=>?_
 unfold s137 r137
 (repeat' (first|(with_reducible (refine ag (λh=>?_) (λh=>?_))<;>(try simp only[Da,Db,Dc,Dw,De,Df,Dg,Dh]at h))|simp only[EVz,seval,↓reduceIte,EV6,EV7]|fail))
 (all_goals(((refine RET.eq hR ?_;(refine congrArg AV.bool (Bool.eq_iff_iff.2 ?_);simp only[inR,EVB]at*;omega)))))
theorem f127 (n lo hi:Int):Pure G Tryz.prog 127 [.int .i64 n,.int .i64 lo,.int .i64 hi] (.bool (inR n lo hi)):=by
 refine Pure.w c127 λR hR=>?_
 unfold s127 r127
 (repeat' (first|(with_reducible (refine ag (λh=>?_) (λh=>?_))<;>(try simp only[Da,Db,Dc,Dw,De,Df,Dg,Dh]at h))|simp only[EVz,seval,↓reduceIte,EV6,EV7]|fail))
 (all_goals(((refine RET.eq hR ?_;(refine congrArg AV.bool (Bool.eq_iff_iff.2 ?_);simp only[inR,EVB]at*;omega)))))
theorem f256 (p k:Int):Pure G Tryz.prog 256 [.int .i64 p,.int .i64 k] (.bool (nests p k)):=by
 refine Pure.w c256 λR hR=>?_
 unfold s256 r256
 (repeat' (first|(with_reducible (first|refine ae (λh=>?_) (λh=>?_)|refine ag (λh=>?_) (λh=>?_))<;>(try simp only[Da,Db,Dc,Dw,De,Df,Dg,Dh]at h))|simp only[EVz,seval,↓reduceIte,EV6,EV7]|(exfalso;omega)|fail))
 (all_goals(((refine RET.eq hR ?_;((simp_all[nests];done))))))
theorem f147 (p k:Int):Pure G Tryz.prog 147 [.int .i64 p,.int .i64 k] (.bool (nests p k)):=by
 refine Pure.w c147 λR hR=>?_
 unfold s147 r147
 (repeat' (first|(with_reducible (first|refine ae (λh=>?_) (λh=>?_)|refine ag (λh=>?_) (λh=>?_))<;>(try simp only[Da,Db,Dc,Dw,De,Df,Dg,Dh]at h))|simp only[EVz,seval,↓reduceIte,EV6,EV7]|fail))
 (all_goals(((refine RET.eq hR ?_;((simp_all[nests];done))))))
end
def iz:Itm:=⟨0,[],[],0,0,⟨⟨0,0,0⟩,0,[],[],[],[]⟩,[],[],[],[],⟨0,0,[]⟩,0,0,0,[],[]⟩
section
variable (G:Glob)
theorem f41 (k:Int):Pure G Tryz.prog 41 [.int .i64 k] (.bool (inR k 0 6)):=by
 refine Pure.w c41 λR hR=>?_
 unfold s41 r41
 (repeat' (first|(with_reducible (refine ag (λh=>?_) (λh=>?_))<;>(try simp only[Da,Db,Dc,Dw,De,Df,Dg,Dh]at h))|simp only[EVz,seval,↓reduceIte,EV6,EV7]|fail))
 (all_goals(((refine RET.eq hR ?_;(refine congrArg AV.bool (Bool.eq_iff_iff.2 ?_);simp only[inR,EVB]at*;omega)))))
theorem f193 (k:Int) (l:List UInt8):Pure G Tryz.prog 193 [.agg [.int .i64 k,.str l]] (.bool (decide (k=0)&&decide (l=[]))):=by
 refine Pure.w c193 λR hR=>?_
 unfold s193 r193
 (repeat' (first|(with_reducible (refine ag (λh=>?_) (λh=>?_))<;>(try simp only[Da,Db,Dc,Dw,De,Df,Dg,Dh]at h))|simp only[EVz,seval,↓reduceIte,EV6,EV7]|fail))
 (all_goals(first|(refine RET.eq hR ?_;(refine congrArg AV.bool (Bool.eq_iff_iff.2 ?_);simp only[EVB]at*;omega))|(refine RET.eq hR ?_;((simp_all[];done)))))
theorem f131 (k:Int) (l:List UInt8):Pure G Tryz.prog 131 [.agg [.int .i64 k,.str l]] (.bool (decide (k=0)&&decide (l=[]))):=by
 refine Pure.w c131 λR hR=>?_
 unfold s131 r131
 (repeat' (first|(with_reducible (refine ag (λh=>?_) (λh=>?_))<;>(try simp only[Da,Db,Dc,Dw,De,Df,Dg,Dh]at h))|simp only[EVz,seval,↓reduceIte,EV6,EV7]|fail))
 (all_goals(first|(refine RET.eq hR ?_;(refine congrArg AV.bool (Bool.eq_iff_iff.2 ?_);simp only[EVB]at*;omega))|(refine RET.eq hR ?_;((simp_all[];done)))))
theorem f109 (k:Int):Pure G Tryz.prog 109 [.int .i64 k] (.bool (inR k 0 3)):=by
 refine Pure.w c109 λR hR=>?_
 unfold s109 r109
 (repeat' (first|(with_reducible refine ab (f127 G _ _ _) ?_)|simp only[EVz,seval,↓reduceIte,EV6,EV7]|fail))
 (all_goals((exact RET.eq hR rfl)))
theorem f116 (x:Itm):Pure G Tryz.prog 116 [.agg x.cs] (.bool (inR x.nth 0 256)):=by
 refine Pure.w c116 λR hR=>?_
 unfold s116 r116
 (repeat' (first|(with_reducible refine ab (f127 G _ _ _) ?_)|simp only[EVz,seval,↓reduceIte,EV6,EV7]|fail))
 (all_goals((exact RET.eq hR rfl)))
theorem f130 (x:Itm) (n:Int):Pure G Tryz.prog 130 [.agg x.cs,.int .i64 n] (.bool (inR x.act 1 1048576&&inR x.item n 31)):=by
 refine Pure.w c130 λR hR=>?_
 unfold s130 r130
 (repeat' (first|(with_reducible (refine ag (λh=>?_) (λh=>?_))<;>(try simp only[Da,Db,Dc,Dw,De,Df,Dg,Dh]at h))|(with_reducible refine ab (f127 G _ _ _) ?_)|simp only[EVz,seval,↓reduceIte,EV6,EV7]|fail))
 (all_goals(((refine RET.eq hR ?_;((simp_all[];done))))))
theorem f107 (x:Itm):Pure G Tryz.prog 107 [.agg x.cs] (.agg (Itm.cs {iz with wh:=x.wh,unit:=x.unit})):=by
 refine Pure.w c107 λR hR=>?_
 unfold s107 r107
 (repeat' (first|simp only[EVz,seval,↓reduceIte,EV6,EV7]|(with_reducible intro blk hblk;(try(have hnx:=hblk;simp only[EVK]at hnx;(have hne:=hnx))))|fail))
 (all_goals(((refine hR _ _ (Or.inr ?_);simp[*,bz,aP,Itm.cs_eq,U.cs_eq,iz];done))))
theorem f111 (x:Itm):Pure G Tryz.prog 111 [.agg x.cs] (.agg (Itm.cs iz)):=by
 refine Pure.w c111 λR hR=>?_
 unfold s111 r111
 (repeat' (first|simp only[EVz,seval,↓reduceIte,EV6,EV7]|(with_reducible intro blk hblk;(try(have hnx:=hblk;simp only[EVK]at hnx;(have hne:=hnx))))|fail))
 (all_goals(((refine hR _ _ (Or.inr ?_);simp[*,bz,aP,Itm.cs_eq,U.cs_eq,iz];done))))
theorem f112 (x:Itm):Pure G Tryz.prog 112 [.agg x.cs] (.bool true):=by
 refine Pure.w c112 λR hR=>?_
 unfold s112 r112
 (repeat' (simp only[EVz,seval,↓reduceIte,EV6,EV7]))
 (all_goals((exact RET.eq hR rfl)))
theorem f113 (x:Itm):Pure G Tryz.prog 113 [.agg x.cs] (.agg (Itm.cs {iz with old:=x.old,new:=x.new,nth:=x.nth})):=by
 refine Pure.w c113 λR hR=>?_
 unfold s113 r113
 (repeat' (first|simp only[EVz,seval,↓reduceIte,EV6,EV7]|(with_reducible intro blk hblk;(try(have hnx:=hblk;simp only[EVK]at hnx;(have hne:=hnx))))|fail))
 (all_goals(((refine hR _ _ (Or.inr ?_);simp[*,bz,aP,Itm.cs_eq,U.cs_eq,iz];done))))
theorem f117 (x:Itm):Pure G Tryz.prog 117 [.agg x.cs] (.agg (Itm.cs {iz with old:=x.old,new:=x.new,nth:=x.nth})):=by
 refine Pure.w c117 λR hR=>?_
 unfold s117 r117
 (repeat' (first|simp only[EVz,seval,↓reduceIte,EV6,EV7]|(with_reducible intro blk hblk;(try(have hnx:=hblk;simp only[EVK]at hnx;(have hne:=hnx))))|fail))
 (all_goals(((refine hR _ _ (Or.inr ?_);simp[*,bz,aP,Itm.cs_eq,U.cs_eq,iz];done))))
theorem f119 (x:Itm):Pure G Tryz.prog 119 [.agg x.cs] (.agg (Itm.cs {iz with new:=x.new})):=by
 refine Pure.w c119 λR hR=>?_
 unfold s119 r119
 (repeat' (first|simp only[EVz,seval,↓reduceIte,EV6,EV7]|(with_reducible intro blk hblk;(try(have hnx:=hblk;simp only[EVK]at hnx;(have hne:=hnx))))|fail))
 (all_goals(((refine hR _ _ (Or.inr ?_);simp[*,bz,aP,Itm.cs_eq,U.cs_eq,iz];done))))
theorem f121 (x:Itm):Pure G Tryz.prog 121 [.agg x.cs] (.agg (Itm.cs {iz with label:=x.label})):=by
 refine Pure.w c121 λR hR=>?_
 unfold s121 r121
 (repeat' (first|simp only[EVz,seval,↓reduceIte,EV6,EV7]|(with_reducible intro blk hblk;(try(have hnx:=hblk;simp only[EVK]at hnx;(have hne:=hnx))))|fail))
 (all_goals(((refine hR _ _ (Or.inr ?_);simp[*,bz,aP,Itm.cs_eq,U.cs_eq,iz];done))))
theorem f123 (x:Itm):Pure G Tryz.prog 123 [.agg x.cs] (.agg (Itm.cs {iz with to_:=x.to_,wh:=x.wh})):=by
 refine Pure.w c123 λR hR=>?_
 unfold s123 r123
 (repeat' (first|simp only[EVz,seval,↓reduceIte,EV6,EV7]|(with_reducible intro blk hblk;(try(have hnx:=hblk;simp only[EVK]at hnx;(have hne:=hnx))))|fail))
 (all_goals(((refine hR _ _ (Or.inr ?_);simp[*,bz,aP,Itm.cs_eq,U.cs_eq,iz];done))))
theorem f125 (x:Itm):Pure G Tryz.prog 125 [.agg x.cs] (.agg (Itm.cs {iz with event:=x.event,day:=x.day})):=by
 refine Pure.w c125 λR hR=>?_
 unfold s125 r125
 (repeat' (first|simp only[EVz,seval,↓reduceIte,EV6,EV7]|(with_reducible intro blk hblk;(try(have hnx:=hblk;simp only[EVK]at hnx;(have hne:=hnx))))|fail))
 (all_goals(((refine hR _ _ (Or.inr ?_);simp[*,bz,aP,Itm.cs_eq,U.cs_eq,iz];done))))
theorem f128 (x:Itm):Pure G Tryz.prog 128 [.agg x.cs] (.agg (Itm.cs {iz with act:=x.act,item:=x.item,by_:=x.by_})):=by
 refine Pure.w c128 λR hR=>?_
 unfold s128 r128
 (repeat' (first|simp only[EVz,seval,↓reduceIte,EV6,EV7]|(with_reducible intro blk hblk;(try(have hnx:=hblk;simp only[EVK]at hnx;(have hne:=hnx))))|fail))
 (all_goals(((refine hR _ _ (Or.inr ?_);simp[*,bz,aP,Itm.cs_eq,U.cs_eq,iz];done))))
theorem f301 (x:Itm):Pure G Tryz.prog 301 [.agg x.cs] (.agg (Itm.cs {iz with act:=x.act,item:=x.item,day:=x.day})):=by
 refine Pure.w c301 λR hR=>?_
 unfold s301 r301
 (repeat' (first|simp only[EVz,seval,↓reduceIte,EV6,EV7]|(with_reducible intro blk hblk;(try(have hnx:=hblk;simp only[EVK]at hnx;(have hne:=hnx))))|fail))
 (all_goals(((refine hR _ _ (Or.inr ?_);simp[*,bz,aP,Itm.cs_eq,U.cs_eq,iz];done))))
theorem f302 (x:Itm):Pure G Tryz.prog 302 [.agg x.cs] (.bool (inR x.act 1 1048576&&inR x.item (-1) 31&&inR x.day 0 1048576)):=by
 refine Pure.w c302 λR hR=>?_
 unfold s302 r302
 (repeat' (first|(with_reducible (refine ag (λh=>?_) (λh=>?_))<;>(try simp only[Da,Db,Dc,Dw,De,Df,Dg,Dh]at h))|(with_reducible first|refine ab (f130 G _ _) ?_|refine ab (f127 G _ _ _) ?_)|simp only[EVz,seval,↓reduceIte,EV6,EV7]|fail))
 (all_goals(((refine RET.eq hR ?_;((simp_all[];done))))))
end
def okCh (c:UInt8):Bool:=decide ((33:Int)<=c.toNat)&&decide ((c.toNat:Int)<=126)
def bQ (s:List UInt8):Bool:=decide ((1:Int)<=s.length)&&(decide ((s.length:Int)<=24)&&s.all okCh)
section
variable (G:Glob)
theorem f229 (s:List UInt8):Pure G Tryz.prog 229 [.str s] (.bool (bQ s)):=by
 refine Pure.w c229 λR hR=>?_
 unfold s229 r229
 (repeat' (first|(with_reducible (first|refine ae (λh=>?_) (λh=>?_)|refine ag (λh=>?_) (λh=>?_))<;>(try simp only[Da,Db,Dc,Dw,De,Df,Dg,Dh]at h))|simp only[EVz,seval,↓reduceIte,EV6,EV7,hx.yes,hx.le0,hx.lt',hx.get,hx.row,hw]|simp only[EVz,seval,↓reduceIte,EV6,EV7,hn]|simp only[EVz,seval,↓reduceIte,EV6,EV7]|(refine af hx () ?_ (Weak.rfl' _ _))|(refine Zq (s) (λi r (c:Unit)=>s.all okCh=r.all okCh) (λi c=>[(0,.str s),(3,.int .i64 i)]) (λ_ _=>[]) () (by rfl) (Weak.rfl' _ _) (by omega) (λi x r c hok hx hw=>?_) (λc hok hn=>?_))|fail))
 (all_goals(first|(refine RET.eq hR ?_;(refine congrArg AV.bool (Bool.eq_iff_iff.2 ?_);simp only[bQ,okCh,EVB]at*;omega))|(refine RET.eq hR ?_;first|(simp_all[bQ,okCh];done)|(simp_all[bQ,okCh];omega))|(simp_all[bQ,okCh];done)))
end
end Go.Av
