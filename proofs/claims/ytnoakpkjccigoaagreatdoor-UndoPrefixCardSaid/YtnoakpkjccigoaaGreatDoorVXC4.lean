/-
  THE TRANSLATED CODE. Printed by mkcode2.py.
-/
import Derived.Test.YtnoakpkjccigoaaGreatDoorVXOpenGtoXCS
import Derived.Test.YtnoakpkjccigoaaGreatDoorVXAv24toXAv26
import Derived.Test.YtnoakpkjccigoaaGreatDoorProg
namespace Go.Av
open Go List
set_option linter.unusedSimpArgs false
set_option linter.unusedVariables false
abbrev Zc26:SOper:=qc 12 9 (.call (.f 124) [.t 10,.t 11])
abbrev Zc25:SOp:=.loadF false 1 (.t 7)
abbrev Zc24:DT:=.step (QS 8 8 31) (.step (Qm 9 32) .done)
abbrev Zc23:DT:=.step (QS 4 15 68) (.step (Qm 16 69) .done)
abbrev Zc22:DT:=.step (QS 8 12 51) (.step (Qm 13 52) .done)
abbrev Zc21:SOper:=qc 10 9 (lm 8 1)
abbrev Zc20:SOper:=qc 11 9 (lm 3 2)
abbrev Zc19:SOper:=qc 14 9 (lm 8 3)
abbrev Zc3:List AV:=[.int .i64 0,.int .i64 0,.int .i64 0,.int .i64 0]
abbrev Zc18:SOper:=qa 15 (.alloc 212 Zc3)
abbrev Zc1:DT:=.step (Q3 10 202 6 7 9) (.step (Qa 11 7 2) (.step (QS 1 11 10) .done))
abbrev Zc17:DT:=.step (Q1 6 203 5) Zc1
abbrev Zc16:SOper:=Qu 9 .add 8 1
abbrev Zc15:SOper:=qa 43 (.raw (.slice 24 (.tmp 40) none (some (.tmp 41)) (some (.tmp 42))))
abbrev Zc14:DT:=.step (Qm 5 71) (.step (Qi 6 0) .done)
abbrev Zc13:SOper:=qa 64 (.raw (.index 246 (.tmp 62) (.tmp 63)))
abbrev Zc12:DT:=.both (.step (Q1 6 203 5) (.step (Qo 7 1) Zc1)) (.step (Qo 7 1) Zc17)
abbrev Zc11:DT:=.step (Q2 50 20 45 49) (.step (Qm 44 50) (.step (Qe 51 0 44) (.step (Qe 52 1 44) Zc22)))
abbrev Zc10:DT:=.both (.step (Q1 6 203 5) (.step (Qo 8 1) (.step Zc16 Zc1))) (.step (Qo 8 1) (.step Zc16 Zc17))
abbrev Zc4:DT:=.step (qc 15 9 (.call (.f 125) [.t 14])) (.step (qc 16 9 (.bin .add (.t 13) (.t 15))) (.step (qc 17 9 (.bin .gtr (.t 16) (qi 8))) (.step (Qq 18 9 17) (.step (Qm 4 18) .done))))
abbrev Zc0:DT:=.step Zc26 (.step (qc 13 9 (.bin .add (.t 12) (qi 1))) Zc4)
abbrev Zc9:DT:=.both (.step Zc26 (.step (qc 13 9 (.bin .add (.t 12) (qi 1))) (.step Zc19 Zc4))) (.step Zc19 Zc0)
abbrev Zc8:DT:=.step (qa 52 (.raw (.call (.mk (.builtin .append) #[.tmp 43,.tmp 51] #[24,24])))) (.step (qa 54 (.raw (.call (.mk (.builtin .append) #[.tmp 52,.tmp 53] #[24,24])))) (.step (Qm 14 54) .done))
abbrev Zc7:List AV:=[.sc .nilFunc,.int .i64 0]
abbrev Zc6:DT:=.step (qa 67 (.call (.t 64) [.t 65,.t 66])) (.step (Qm 61 67) (.step (Qe 68 0 61) (.step (Qe 69 1 61) Zc23)))
abbrev Zc5:List AV:=[.int .i64 0,.int .i64 0,.int .i64 0]
abbrev Zc2:List AV:=[.int .i64 0,.int .i64 0,.int .i64 0,.int .i64 0,.int .i64 0,.int .i64 0,.int .i64 0,.int .i64 0,.int .i64 0,.int .i64 0,.int .i64 0,.int .i64 0,.str [],.nil,.nil,.nil,.str [],.nil]
def r3:RL:=[(2,none)]
def s3:SCode:=qR [Qb 1 18 0,Qf 2] [1] (qR [Qa 6 16 1,Qo 7 6,QN 8 7,Qm 3 8] [1,3] (qs (qR [Qa 9 17 1,Qo 10 9,Qn 11 10,Qi 12 0] [1,3,10,11,12] (qs (.block 0 (.loop (qR [Qv 13 .lss 12 11] [1,3,10,11,12,13] (qs (qX 13) (qs (qs (.block 1 (qR [Qx 14 4 10 12,Ql 15 4 14,qa 5 (.alloc 33 [.str [],.int .i64 0,.int .i64 0,.int .i64 0]),QS 4 5 15] [1,3,5,10,11,12] (qr [Qm 16 3,Qa 17 0 5,Qo 18 17,QN 19 18,Qv 20 .add 16 19,Qm 3 20] [1,3,10,11,12]))) (qr [] [1,3,10,11,12])) (qr [Qu 21 .add 12 1,Qm 12 21] [1,3,10,11,12])))))) (qr [] [1,3]))) (qs (qR [Qa 22 8 1,Ql 23 8 22,qa 24 (.call (.f 9) [.t 23,qi 30]),Qr 25 24,Qm 26 25,qc 27 26 (fa 17 1),qc 28 26 (lo 27),qc 29 26 (.len (.t 28)),qc 30 26 (.bin .gtr (.t 29) (qi 60)),Qq 31 26 30,Qm 32 31,Ym 33 32 3,qc 34 32 (.bin .gtr (.t 33) (qi 2000)),Qq 35 32 34] [1,35] (.cond (.t 35) (qR [Q0 36 10,Qm 2 36] [2] .ret) .skip)) (qs (.drawL [Qs 37 18 1,Qs 39 18 1,Q1 38 11 37,Q1 40 12 39,Qv 41 .eql 38 40,Qm 42 41,qb 43 42 (.call (.f 10) []),Qp 44 42 43,Qm 2 44] [2]) .ret))))
theorem c3:FB 3 [2000001]=some (r3,s3):=by kernel_rfl
def r6:RL:=[(6,none)]
def s6:SCode:=qR [Qb 3 8 0,Qf 6] [1,2,3] (qs (qR [Ql 14 8 3,Qm 15 1,Q2 16 13 14 15,Qr 17 16] [1,2,3,17] (.cond (.t 17) (qR [Q0 18 10,Qm 6 18] [6] .ret) .skip)) (qR [Qm 19 2,qa 20 (.conv .i64 (.t 19)),Qm 21 1,Qn 22 21,Qu 23 .add 22 1,Qv 24 .rem 20 23,Qm 7 24] [1,3,7] (qs (.drawT (.step (Qs 26 8 3) (.step (Qm 27 1) (.step (Qm 28 7) (.step (qa 29 (.slice 28 (.t 27) none (some (.t 28)))) (.both (.step (Q2 30 19 26 29) (.step (Qm 25 30) (.step (Qe 31 0 25) (.step (Qe 32 1 25) (.step (QU 8 27) Zc24))))) (.step (QU 8 27) (.step (Q2 30 19 26 29) (.step (Qm 25 30) (.step (Qe 31 0 25) (.step (Qe 32 1 25) Zc24)))))))))) [1,3,8,9]) (qR [Ql 34 8 3,Qm 35 1,Q2 36 19 34 35,Qm 33 36,Qe 37 0 33,Qe 38 1 33,QU 10 27,QS 8 10 37,Qm 11 38] [8,9,10,11] (qs (qR [Qm 39 9,Qn 40 39,Qm 41 11,Qn 42 41,Qv 43 .gtr 40 42] [8,9,10,11,43] (.cond (.t 43) (qR [Qf 6] [6] .ret) .skip)) (qs (.drawT (.step (Qm 46 11) (.step (Qm 47 9) (.step (Qn 48 47) (.step (qa 49 (.slice 18 (.t 46) (some (.t 48)) none)) (.both (.step (Ql 45 8 10) (.both (.step (Q2 50 20 45 49) (.step (Qm 44 50) (.step (Qe 51 0 44) (.step (Qe 52 1 44) (.step (QU 12 27) Zc22))))) (.step (QU 12 27) Zc11))) (.step (QU 12 27) (.step (Ql 45 8 10) Zc11))))))) [8,12,13]) (qR [Qm 53 13,Qu 54 .eql 53 0,Qm 55 54,qb 56 55 (lm 8 12),qb 57 55 (lm 8 8),qb 58 55 (.call (.f 16) [.t 56,.t 57]),Qp 59 55 58,Qm 60 59,qb 61 60 (.call (.f 10) []),Qp 62 60 61,Qm 6 62] [6] .ret)))))))
theorem c6:FB 6 [2000003]=some (r6,s6):=by kernel_rfl
def r12:RL:=[(2,none)]
def s12:SCode:=qR [Qb 1 18 0,qa 2 (.mov (.c (.str [])))] [1] (qs (qR [Qa 3 0 1,Qo 4 3] [1,4] (qs (.block 0 (qR [Qu 6 .eql 4 0,Qm 5 6] [1,4,5] (.cond (.t 5) (qR [Qa 7 2 1,Ql 8 3 7,Q1 9 30 8,qa 10 (.bin .add (.c (.str [105,110,115,101,114,116,101,100,32])) (.t 9)),Qm 2 10] [2] .ret) (qR [Qu 12 .eql 4 1,Qm 11 12] [1,4,11] (.cond (.t 11) (qs (.drawL [Qa 13 2 1,Qs 14 3 13,Qa 18 5 1,Qs 19 3 18,Qa 23 1 1,qa 24 (.loadF false 1 (.t 23)),Q1 15 30 14,qa 16 (.bin .add (.c (.str [114,101,109,111,118,101,100,32])) (.t 15)),qa 17 (.bin .add (.t 16) (.c (.str [32,102,114,111,109,32]))),Q1 20 30 19,Qv 21 .add 17 20,qa 22 (.bin .add (.t 21) (.c (.str [32,97,116,32]))),Q1 25 31 24,Qv 26 .add 22 25,Qm 2 26] [2]) .ret) (qR [Qu 28 .eql 4 2,Qm 27 28] [1,4,27] (.cond (.t 27) (qs (.drawL [Qa 29 2 1,Qs 30 3 29,Qa 34 5 1,Qs 35 3 34,Qa 39 1 1,qa 40 (.loadF false 1 (.t 39)),Q1 31 30 30,qa 32 (.bin .add (.c (.str [109,111,118,101,100,32])) (.t 31)),qa 33 (.bin .add (.t 32) (.c (.str [32,102,114,111,109,32]))),Q1 36 30 35,Qv 37 .add 33 36,qa 38 (.bin .add (.t 37) (.c (.str [32,97,116,32]))),Q1 41 31 40,Qv 42 .add 38 41,Qm 2 42] [2]) .ret) (qR [Qu 44 .eql 4 3,Qm 43 44] [1,4,43] (.cond (.t 43) (qs (.drawL [Qa 45 2 1,Qs 46 3 45,Qa 50 16 1,qa 51 (.loadF false 1 (.t 50)),Q1 47 30 46,qa 48 (.bin .add (.c (.str [108,97,98,101,108,32])) (.t 47)),qa 49 (.bin .add (.t 48) (.c (.str [32,119,97,115,32]))),Qv 52 .add 49 51,Qm 2 52] [2]) .ret) (qR [Qu 54 .eql 4 4,Qm 53 54] [1,4,53] (.cond (.t 53) (qs (.drawL [Qa 55 2 1,Qs 56 3 55,Qa 60 17 1,qa 61 (.loadF false 1 (.t 60)),Q1 57 30 56,qa 58 (.bin .add (.c (.str [119,111,114,100,115,32])) (.t 57)),qa 59 (.bin .add (.t 58) (.c (.str [32,119,101,114,101]))),Q1 62 32 61,Qv 63 .add 59 62,Qm 2 63] [2]) .ret) (qR [Qu 65 .eql 4 5,Qm 64 65] [1,64] (.cond (.t 64) (qs (.drawL [Qa 66 2 1,Qs 67 3 66,Qa 71 17 1,qa 72 (.loadF false 1 (.t 71)),Q1 68 30 67,qa 69 (.bin .add (.c (.str [104,101,97,100,105,110,103,32])) (.t 68)),qa 70 (.bin .add (.t 69) (.c (.str [32,119,97,115]))),Q1 73 32 72,Qv 74 .add 70 73,Qm 2 74] [2]) .ret) .skip))))))))))))) (qr [] []))) (qR [qa 2 (.mov (.c (.str [])))] [2] .ret))
theorem c12:FB 12 [2000001]=some (r12,s12):=by kernel_rfl
def r18:RL:=[(4,some (true,8)),(5,none)]
def s18:SCode:=qR [Qb 2 8 0,Qb 3 28 1,QU 4 27,Qi 5 0] [2,3,4] (qs (.drawL [Qa 16 3 3,Qa 17 0 16,qa 18 (.loadF false 1 (.t 17)),Q0 15 46,qa 19 (.raw (.lookup 97 (.tmp 15) (.tmp 18) true)),Qm 14 19,Qe 20 0 14,Qe 21 1 14,Qm 6 20,Qm 7 21] [2,3,4,6,7]) (qs (qR [Qm 22 7,Qr 23 22,Qm 24 23,qc 25 24 (fa 3 3),qc 26 24 (lm 25 25),qc 27 24 (.call (.f 47) [.t 26]),qc 28 24 (.not (.t 27)),Qq 29 24 28] [2,3,4,6,29] (.cond (.t 29) (qR [Ql 30 8 2,QS 8 4 30,Qi 5 1] [4,5] .ret) .skip)) (qR [Ql 32 8 2,Qa 33 3 3,Qa 34 1 33,Qo 35 34,Q2 36 43 32 35,Qm 31 36,Qe 37 0 31,Qe 38 1 31,qa 8 (.alloc 23 Zc5),QS 3 8 37,Qm 9 38] [2,3,4,6,8,9] (qs (qR [Qm 39 9,Qu 40 .neq 39 0] [2,3,4,6,8,9,40] (.cond (.t 40) (qR [Ql 41 8 2,Qm 42 9,QS 8 4 41,Qm 5 42] [4,5] .ret) .skip)) (qR [Ql 44 8 2,Ql 45 3 8,Q2 46 44 44 45,Qm 43 46,Qe 47 0 43,Qe 48 1 43,QU 10 27,QS 8 10 47,Qm 11 48] [2,3,4,6,8,10] (qs (qR [Ql 49 3 8,Qa 50 0 2,Ql 51 3 50,qa 52 (.eqs true [1,1,1] (.t 49) (.t 51)),Qm 53 52,qc 54 53 (fa 3 3),qc 55 53 (fa 0 54),qc 56 53 (lo 55),qc 57 53 (.bin .eql (.t 56) (qi 0)),Qq 58 53 57] [2,3,4,6,10,58] (.cond (.t 58) (qR [Qm 59 6,Ql 60 8 2,Ql 61 8 10,Ql 62 28 3,qa 63 (.call (.t 59) [.t 60,.t 61,.t 62]),Qe 64 0 63,Qe 65 1 63,QS 8 4 64,Qm 5 65] [4,5] .ret) .skip)) (qs (qR [Qa 66 3 3,Qa 67 0 66,Qo 68 67,Qu 69 .eql 68 6] [2,3,4,69] (.cond (.t 69) (qR [Ql 71 8 2,Qa 72 3 3,Qa 73 2 72,Qo 74 73,Q2 75 43 71 74,Qm 70 75,Qe 76 0 70,Qe 77 1 70,qa 12 (.alloc 23 Zc5),QS 3 12 76,Qm 13 77] [2,4,13] (qR [Qm 78 13,Qu 79 .neq 78 0] [2,4,13,79] (.cond (.t 79) (qR [Ql 80 8 2,Qm 81 13,QS 8 4 80,Qm 5 81] [4,5] .ret) .skip))) .skip)) (qR [Ql 82 8 2,QS 8 4 82,Qi 5 9] [4,5] .ret))))))))
theorem c18:FB 18 [2000002,2000003]=some (r18,s18):=by kernel_rfl
def r21:RL:=[(4,none)]
def s21:SCode:=qR [Qb 2 18 0,Qb 3 18 1,Qf 4] [2,3] (qR [Qa 5 0 2,Qo 6 5,Qa 7 0 3,Qo 8 7,Qv 9 .eql 6 8,Qm 10 9,qb 11 10 (fa 1 2),qb 12 10 (lo 11),qb 13 10 (fa 1 3),qb 14 10 (lo 13),qb 15 10 (.bin .eql (.t 12) (.t 14)),Qp 16 10 15,Qm 17 16,qb 18 17 (fa 2 2),qb 19 17 (lm 3 18),qb 20 17 (fa 2 3),qb 21 17 (lm 3 20),qb 22 17 (.eqs false [1,1,1] (.t 19) (.t 21)),Qp 23 17 22,Qm 24 23,qb 25 24 (fa 5 2),qb 26 24 (lm 3 25),qb 27 24 (fa 5 3),qb 28 24 (lm 3 27),qb 29 24 (.eqs false [1,1,1] (.t 26) (.t 28)),Qp 30 24 29,Qm 31 30,qb 32 31 (fa 16 2),qb 33 31 (lo 32),qb 34 31 (fa 16 3),qb 35 31 (lo 34),qb 36 31 (.bin .eql (.t 33) (.t 35)),Qp 37 31 36,Qm 38 37,qb 39 38 (fa 8 2),qb 40 38 (lm 8 39),qb 41 38 (fa 8 3),qb 42 38 (lm 8 41),qb 43 38 (.call (.f 16) [.t 40,.t 42]),Qp 44 38 43,Qm 45 44,qb 46 45 (fa 17 2),qb 47 45 (lo 46),qb 48 45 (fa 17 3),qb 49 45 (lo 48),qb 50 45 (.call (.f 42) [.t 47,.t 49]),Qp 51 45 50,Qm 4 51] [4] .ret)
theorem c21:FB 21 [2000002,2000003]=some (r21,s21):=by kernel_rfl
def r27:RL:=[(2,none)]
def s27:SCode:=qR [Qb 1 3 0,qa 2 (.mov (.c (.str [])))] [1] (qs (.drawL [Qa 3 0 1,qa 4 (.loadF false 1 (.t 3)),Qa 7 1 1,qa 8 Zc25,Qa 12 2 1,qa 13 (.loadF false 1 (.t 12)),Q1 5 51 4,qa 6 (.bin .add (.t 5) (.c (.str [46]))),Q1 9 51 8,Qv 10 .add 6 9,qa 11 (.bin .add (.t 10) (.c (.str [46]))),Q1 14 51 13,Qv 15 .add 11 14,Qm 2 15] [2]) .ret)
theorem c27:FB 27 [2000001]=some (r27,s27):=by kernel_rfl
def r30:RL:=[(2,none)]
def s30:SCode:=qR [Qb 1 3 0,qa 2 (.mov (.c (.str [])))] [1] (qs (.drawL [Qa 3 0 1,qa 4 (.loadF false 1 (.t 3)),Qa 7 1 1,qa 8 Zc25,Qa 12 2 1,qa 13 (.loadF false 1 (.t 12)),Q1 5 31 4,qa 6 (.bin .add (.t 5) (.c (.str [46]))),Q1 9 31 8,Qv 10 .add 6 9,qa 11 (.bin .add (.t 10) (.c (.str [46]))),Q1 14 31 13,Qv 15 .add 11 14,Qm 2 15] [2]) .ret)
theorem c30:FB 30 [2000001]=some (r30,s30):=by kernel_rfl
def r33:RL:=[(2,none)]
def s33:SCode:=qR [Qb 1 8 0,Qf 2] [1] (qR [Qa 3 3 1,Qo 4 3,Qu 5 .eql 4 0,Qm 6 5,qb 7 6 (lm 8 1),qb 8 6 (.call (.f 54) [.t 7]),Qp 9 6 8,Qm 2 9] [2] .ret)
theorem c33:FB 33 [2000001]=some (r33,s33):=by kernel_rfl
def r36:RL:=[(0,none)]
def s36:SCode:=qR [qa 0 (.mov (.c (.sc (.map none))))] [] (qR [qa 1 (.raw (.makeMap 78 none)),⟨none,none,.raw (.insert 78 (.tmp 1) (.const (.int .i64 0)) (.func 57))⟩,⟨none,none,.raw (.insert 78 (.tmp 1) (.const (.int .i64 1)) (.func 59))⟩,⟨none,none,.raw (.insert 78 (.tmp 1) (.const (.int .i64 2)) (.func 61))⟩,⟨none,none,.raw (.insert 78 (.tmp 1) (.const (.int .i64 3)) (.func 63))⟩,⟨none,none,.raw (.insert 78 (.tmp 1) (.const (.int .i64 4)) (.func 65))⟩,⟨none,none,.raw (.insert 78 (.tmp 1) (.const (.int .i64 5)) (.func 67))⟩,Qm 2 1,Qm 0 2] [0] .ret)
theorem c36:FB 36 []=some (r36,s36):=by kernel_rfl
def r45:RL:=[(0,none)]
def s45:SCode:=qR [qa 0 (.mov (.c (.sc (.map none))))] [] (qR [qa 1 (.mov (.f 85))] [1] (qR [qa 2 (.raw (.makeMap 92 none)),⟨none,none,.raw (.insert 92 (.tmp 2) (.const (.int .i64 1)) (.func 87))⟩,⟨none,none,.raw (.insert 92 (.tmp 2) (.const (.int .i64 6)) (.func 89))⟩,Qm 3 1,⟨none,none,.raw (.insert 92 (.tmp 2) (.const (.int .i64 2)) (.tmp 3))⟩,Qm 4 1,⟨none,none,.raw (.insert 92 (.tmp 2) (.const (.int .i64 3)) (.tmp 4))⟩,⟨none,none,.raw (.insert 92 (.tmp 2) (.const (.int .i64 4)) (.func 90))⟩,⟨none,none,.raw (.insert 92 (.tmp 2) (.const (.int .i64 5)) (.func 91))⟩,Qm 5 2,Qm 0 5] [0] .ret))
theorem c45:FB 45 []=some (r45,s45):=by kernel_rfl
def r57:RL:=[(4,some (true,8)),(5,none)]
def s57:SCode:=qR [Qb 2 8 0,Qb 3 18 1,QU 4 27,Qi 5 0] [2,3,4] (qR [Ql 10 8 2,Qa 11 2 3,Ql 12 3 11,Q2 13 58 10 12,Qm 9 13,Qe 14 0 9,Qe 15 1 9,Qe 16 2 9,QU 6 27,QU 7 27,QS 8 6 14,QS 8 7 15,Qm 8 16] [4,6,8] (qR [Ql 17 8 6,Qm 18 8,QS 8 4 17,Qm 5 18] [4,5] .ret))
theorem c57:FB 57 [2000002,2000003]=some (r57,s57):=by kernel_rfl
def r60:RL:=[(8,some (true,8)),(9,none)]
def s60:SCode:=qR [Qb 4 8 0,Qb 5 3 1,Qb 7 8 3,QU 8 27,Qi 9 0] [2,4,5,7,8] (qs (qR [Ql 11 8 4,Ql 12 3 5,Qm 13 2,Ql 14 8 7,Q4 15 117 11 12 13 14,Qm 10 15] [2,4,5,7,8,10] (qR [Qm 16 10,Qu 17 .neq 16 0] [2,4,5,7,8,10,17] (.cond (.t 17) (qR [QA 18,Qm 19 10,QS 8 8 18,Qm 9 19] [8,9] .ret) .skip))) (qs (.drawL [Qs 20 8 4,Qs 21 3 5,Qm 22 2,Qs 23 8 7,Q2 24 119 22 23,Q3 25 118 20 21 24,QS 8 8 25,Qi 9 0] [8,9]) .ret))
theorem c60:FB 60 [2000004,2000005,2000007]=some (r60,s60):=by kernel_rfl
def r63:RL:=[(4,some (true,8)),(5,none)]
def s63:SCode:=qR [Qb 2 8 0,Qb 3 18 1,QU 4 27,Qi 5 0] [2,3,4] (qR [Ql 6 8 2,Qa 7 2 3,Ql 8 3 7,Qa 9 16 3,Qo 10 9,Q3 11 64 6 8 10,Qe 12 0 11,Qe 13 1 11,QS 8 4 12,Qm 5 13] [4,5] .ret)
theorem c63:FB 63 [2000002,2000003]=some (r63,s63):=by kernel_rfl
def r66:RL:=[(6,some (true,8)),(7,none)]
def s66:SCode:=qR [Qb 3 8 0,Qb 4 3 1,QB 5 24 1 2,QU 6 27,Qi 7 0] [3,4,5,6] (qR [Ql 8 8 3,Ql 9 3 4,Qo 10 5,qa 11 (.mkfun (.func 136) [] [.t 5]),Q4 12 135 8 9 10 11,Qe 13 0 12,Qe 14 1 12,QS 8 6 13,Qm 7 14] [6,7] .ret)
theorem c66:FB 66 [2000003,2000004]=some (r66,s66):=by kernel_rfl
def r87:RL:=[(4,some (true,18))]
def s87:SCode:=qR [Qb 2 8 0,Qb 3 8 1,qa 4 (.alloc 29 Zc2)] [2,3,4] (qR [Ql 6 8 2,Qa 7 0 3,Ql 8 3 7,Q2 9 88 6 8,qa 5 (.alloc 29 Zc2),QS 18 5 9] [3,4,5] (qs (.drawL [Qs 10 8 3,Qa 11 0 5,⟨none,none,.store 1 (.t 11) (qi 1)⟩,Qa 12 8 5,QS 8 12 10] [4,5]) (qR [Ql 13 18 5,QS 18 4 13] [4] .ret)))
theorem c87:FB 87 [2000002,2000003]=some (r87,s87):=by kernel_rfl
def r90:RL:=[(4,some (true,18))]
def s90:SCode:=qR [Qb 2 8 0,Qb 3 8 1,qa 4 (.alloc 29 Zc2)] [3,4] (qs (.drawL [Qa 5 0 3,Qs 6 3 5,Qa 7 5 3,qa 8 Zc25,Q1 9 86 8,qa 10 (.build Zc2 [(0,(1,qi 5)),(2,(3,.t 6)),(17,(1,.t 9))]),QS 18 4 10] [4]) .ret)
theorem c90:FB 90 [2000002,2000003]=some (r90,s90):=by kernel_rfl
def r93:RL:=[(6,some (true,8)),(7,none)]
def s93:SCode:=qR [Qb 3 8 0,Qb 4 8 1,Qb 5 28 2,QU 6 27,Qi 7 0] [3,4,6] (qR [Ql 8 8 3,Qa 9 0 4,Ql 10 3 9,Q2 11 156 8 10,QS 8 6 11,Qi 7 0] [6,7] .ret)
theorem c93:FB 93 [2000003,2000004,2000005]=some (r93,s93):=by kernel_rfl
def r96:RL:=[(6,some (true,8)),(7,none)]
def s96:SCode:=qR [Qb 3 8 0,Qb 4 8 1,Qb 5 28 2,QU 6 27,Qi 7 0] [3,4,5,6] (qR [Qa 9 3 5,Qa 10 14 9,Qo 11 10,Qa 12 0 5,Qo 13 12,Qa 14 1 5,Qo 15 14,qa 16 (.call (.f 161) [.t 11,.t 13,.t 15,qi 0]),qa 8 (.alloc 24 [.nil]),QS 1 8 16] [3,4,6,8] (qR [Ql 17 8 3,Qa 18 0 4,Ql 19 3 18,qa 20 (.mkfun (.func 162) [] [.t 8]),Q3 21 153 17 19 20,QS 8 6 21,Qi 7 0] [6,7] .ret))
theorem c96:FB 96 [2000003,2000004,2000005]=some (r96,s96):=by kernel_rfl
def r111:RL:=[(2,none)]
def s111:SCode:=qR [Qb 1 8 0,Qf 2] [1] (qR [qa 3 (.mov (.f 199))] [1,3] (qR [Ql 5 8 1,Q1 6 149 5,Qm 4 6] [1,3,4] (qs (qR [Qa 7 3 1,Qo 8 7,Qu 9 .eql 8 0] [1,3,4,9] (.cond (.t 9) (qr [Qm 10 4,qa 11 (.slice 3 (.t 10) (some (qi 1)) none),Qm 4 11] [1,3,4]) .skip)) (qR [Ql 12 8 1,Q1 13 200 12,Qm 14 13,Bm 15 14 4,Bm 16 14 3,qb 17 14 (.call (.f 150) [.t 15,.t 16]),qb 18 14 (.not (.t 17)),Qp 19 14 18,Qm 2 19] [2] .ret))))
theorem c111:FB 111 [2000001]=some (r111,s111):=by kernel_rfl
def r114:RL:=[(2,none)]
def s114:SCode:=qR [Qf 2] [0,1] (qR [Qa 3 0 0,Ql 4 3 3,Ql 5 3 1,qa 6 (.eqs false [1,1,1] (.t 4) (.t 5)),Qm 2 6] [2] .ret)
theorem c114:FB 114 []=some (r114,s114):=by kernel_rfl
def r117:RL:=[(8,none)]
def s117:SCode:=qR [QB 4 27 8 0,QB 5 23 3 1,QB 6 3 1 2,QB 7 27 8 3,Qi 8 0] [4,5,6,7] (qs (qR [Ql 13 8 4,Q1 14 111 13,Qr 15 14,Qm 16 15,qc 17 16 (lm 8 7),qc 18 16 (.call (.f 111) [.t 17]),qc 19 16 (.not (.t 18)),Qq 20 16 19,Qm 21 20,qc 22 21 (fa 3 7),qc 23 21 (lo 22),qc 24 21 (.bin .eql (.t 23) (qi 0)),Qq 25 21 24] [4,5,6,7,25] (.cond (.t 25) (qR [Qi 8 1] [8] .ret) .skip)) (qR [Ql 27 8 4,Ql 28 3 5,Q2 29 44 27 28,Qm 26 29,Qe 30 0 26,Qe 31 1 26,QU 9 27,qa 10 (.alloc 4 [.bool false]),QS 8 9 30,QS 1 10 31] [4,5,6,7,9,10] (qR [qa 32 (.mkfun (.func 204) [] [.t 7,.t 4]),Qm 11 32] [4,5,6,7,9,10,11] (qR [qa 33 (.mkfun (.func 206) [] [.t 9,.t 4,.t 5,.t 7]),Qm 12 33] [6,7,9,10,11,12] (qR [qa 34 (.mkfun (.func 207) [] [.t 10]),qa 35 (.build Zc7 [(0,(1,.t 34)),(1,(1,qi 4))]),qa 36 (.mkfun (.func 208) [] [.t 9,.t 7]),qa 37 (.build Zc7 [(0,(1,.t 36)),(1,(1,qi 9))]),qa 38 (.mkfun (.func 209) [] [.t 6,.t 9]),qa 39 (.build Zc7 [(0,(1,.t 38)),(1,(1,qi 3))]),qa 40 (.mkfun (.func 210) [] [.t 9,.t 7]),qa 41 (.build Zc7 [(0,(1,.t 40)),(1,(1,qi 10))]),Qm 42 12,qa 43 (.build Zc7 [(0,(1,.t 42)),(1,(1,qi 6))]),Qm 44 11,qa 45 (.build Zc7 [(0,(1,.t 44)),(1,(1,qi 5))]),qa 46 (.buildS 155 2 6 [.sc .nilFunc,.int .i64 0,.sc .nilFunc,.int .i64 0,.sc .nilFunc,.int .i64 0,.sc .nilFunc,.int .i64 0,.sc .nilFunc,.int .i64 0,.sc .nilFunc,.int .i64 0] [(0,.t 35),(1,.t 37),(2,.t 39),(3,.t 41),(4,.t 43),(5,.t 45)]),Q1 47 109 46,Qm 8 47] [8] .ret)))))
theorem c117:FB 117 []=some (r117,s117):=by kernel_rfl
def r120:RL:=[(1,none)]
def s120:SCode:=qR [Qf 1] [0] (qR [Ql 2 8 0,Q1 3 111 2,Qr 4 3,Qm 1 4] [1] .ret)
theorem c120:FB 120 []=some (r120,s120):=by kernel_rfl
def r123:RL:=[(4,none)]
def s123:SCode:=qR [Qf 4] [0,1,2,3] (qs (.drawT (.step (Qa 5 7 0) (.step (Qo 6 5) (.step (Qn 7 6) (.step (Qu 8 .geq 7 64) (.step (Qm 9 8) (.both (.step Zc21 (.both (.step Zc20 Zc9) (.step Zc19 (.step Zc20 Zc0)))) (.both (.step Zc20 (.both (.step Zc21 Zc9) (.step Zc19 (.step Zc21 Zc0)))) (.step Zc19 (.both (.step Zc21 (.step Zc20 Zc0)) (.step Zc20 (.step Zc21 Zc0))))))))))) [4]) .ret)
theorem c123:FB 123 []=some (r123,s123):=by kernel_rfl
def r126:RL:=[(2,none)]
def s126:SCode:=qR [Qf 2] [0,1] (qR [Qo 3 0,Qu 4 .lss 3 0,Qm 5 4,qc 6 5 (lo 0),qc 7 5 (fa 7 1),qc 8 5 (lo 7),qc 9 5 (.len (.t 8)),qc 10 5 (.bin .gtr (.t 6) (.t 9)),Qq 11 5 10,Qm 2 11] [2] .ret)
theorem c126:FB 126 []=some (r126,s126):=by kernel_rfl
def r132:RL:=[(1,none)]
def s132:SCode:=qR [Qf 1] [0] (qR [Qo 2 0,Qr 3 2,Qm 1 3] [1] .ret)
theorem c132:FB 132 []=some (r132,s132):=by kernel_rfl
def r135:RL:=[(8,some (true,8)),(9,none)]
def s135:SCode:=qR [QB 4 27 8 0,Qb 5 3 1,QB 6 24 1 2,QU 8 27,Qi 9 0] [3,4,5,6,8] (qR [Ql 15 8 4,Ql 16 3 5,Q2 17 44 15 16,Qm 14 17,Qe 18 0 14,Qe 19 1 14,QU 10 27,qa 11 (.alloc 4 [.bool false]),QS 8 10 18,QS 1 11 19] [3,4,5,6,8,10,11] (qR [qa 12 (.alloc 205 [.sc .nilFunc]),⟨none,none,.store 1 (.t 12) (.f 222)⟩] [3,4,5,6,8,10,11,12] (qR [qa 20 (.mkfun (.func 224) [] [.t 4,.t 6,.t 12]),qa 21 (.build Zc7 [(0,(1,.t 20)),(1,(1,qi 1))]),qa 22 (.mkfun (.func 226) [] [.t 11]),qa 23 (.build Zc7 [(0,(1,.t 22)),(1,(1,qi 4))]),qa 24 (.mkfun (.func 227) [] [.t 10]),qa 25 (.build Zc7 [(0,(1,.t 24)),(1,(1,qi 9))]),qa 26 (.mkfun (.func 228) [] [.t 6]),qa 27 (.build Zc7 [(0,(1,.t 26)),(1,(1,qi 6))]),qa 28 (.buildS 155 2 4 [.sc .nilFunc,.int .i64 0,.sc .nilFunc,.int .i64 0,.sc .nilFunc,.int .i64 0,.sc .nilFunc,.int .i64 0] [(0,.t 21),(1,.t 23),(2,.t 25),(3,.t 27)]),Q1 29 109 28,Qm 13 29] [3,4,5,8,13] (qs (qR [Qm 30 13,Qu 31 .neq 30 0] [3,4,5,8,13,31] (.cond (.t 31) (qR [QA 32,Qm 33 13,QS 8 8 32,Qm 9 33] [8,9] .ret) .skip)) (qR [Ql 34 8 4,Ql 35 3 5,Qm 36 3,Q3 37 118 34 35 36,QS 8 8 37,Qi 9 0] [8,9] .ret)))))
theorem c135:FB 135 [2000005]=some (r135,s135):=by kernel_rfl
def r144:RL:=[(4,some (true,3)),(5,none),(6,none)]
def s144:SCode:=qR [Qb 2 8 0,Qb 3 25 1,qa 4 (.alloc 23 Zc5),Qi 5 0,Qi 6 0] [2,3,4] (qs (qR [Qa 11 0 3,Qo 12 11,Qu 13 .eql 12 0] [2,3,4,13] (.cond (.t 13) (qR [Ql 14 8 2,Qa 15 1 3,Qo 16 15,Qa 17 3 3,Qo 18 17,Q3 19 232 14 16 18,Qe 20 0 19,Qe 21 1 19,Qe 22 2 19,QS 3 4 20,Qm 5 21,Qm 6 22] [4,5,6] .ret) .skip)) (qs (qR [Qa 23 0 3,Qo 24 23,Qu 25 .neq 24 6,Qm 26 25,qc 27 26 (fa 3 3),qc 28 26 (lo 27),qc 29 26 (.call (.f 233) [.t 28]),qc 30 26 (.not (.t 29)),Qq 31 26 30] [2,3,4,31] (.cond (.t 31) (qR [qa 32 (.build Zc5 []),QS 3 4 32,Qi 5 0,Qi 6 1] [4,5,6] .ret) .skip)) (qR [Ql 34 8 2,Qa 35 1 3,Qo 36 35,Q2 37 43 34 36,Qm 33 37,Qe 38 0 33,Qe 39 1 33,qa 7 (.alloc 23 Zc5),QS 3 7 38,Qm 8 39] [2,3,4,7,8] (qs (qR [Qm 40 8,Qu 41 .neq 40 0] [2,3,4,7,8,41] (.cond (.t 41) (qR [qa 42 (.build Zc5 []),Qm 43 8,QS 3 4 42,Qi 5 0,Qm 6 43] [4,5,6] .ret) .skip)) (qR [Ql 45 8 2,Qa 46 2 3,Qo 47 46,Q2 48 43 45 47,Qm 44 48,Qe 49 0 44,Qe 50 1 44,qa 9 (.alloc 23 Zc5),QS 3 9 49,Qm 8 50] [2,3,4,7,8,9] (qs (qR [Qm 51 8,Qu 52 .neq 51 0] [2,3,4,7,8,9,52] (.cond (.t 52) (qR [qa 53 (.build Zc5 []),Qm 54 8,QS 3 4 53,Qi 5 0,Qm 6 54] [4,5,6] .ret) .skip)) (qR [Ql 56 8 2,Ql 57 3 7,Ql 58 3 9,Qa 59 3 3,Qo 60 59,Q4 61 234 56 57 58 60,Qm 55 61,Qe 62 0 55,Qe 63 1 55,qa 10 (.alloc 212 Zc3),QS 4 10 62,Qm 8 63] [4,8,10] (qs (qR [Qm 64 8,Qu 65 .neq 64 0] [4,8,10,65] (.cond (.t 65) (qR [qa 66 (.build Zc5 []),Qm 67 8,QS 3 4 66,Qi 5 0,Qm 6 67] [4,5,6] .ret) .skip)) (qs (.drawT (.step (Qa 68 0 10) (.step (Qa 70 3 10) (.both (.step (Ql 69 3 68) (.both (.step (Qo 71 70) (.step (QS 3 4 69) Zc14)) (.step (QS 3 4 69) (.step (Qo 71 70) Zc14)))) (.step (Qo 71 70) (.step (Ql 69 3 68) (.step (QS 3 4 69) Zc14)))))) [4,5,6]) .ret)))))))))
theorem c144:FB 144 [2000002,2000003]=some (r144,s144):=by kernel_rfl
def r147:RL:=[(6,none)]
def s147:SCode:=qR [Qb 3 8 0,Qb 4 3 1,Qb 5 8 2,Qf 6] [3,4,5] (qs (.drawL [Qs 7 8 3,Qs 8 3 4,Qs 12 8 5,Q2 9 214 7 8,Qn 10 9,Qu 11 .add 10 1,Q1 13 125 12,Qv 14 .add 11 13,Qu 15 .gtr 14 8,Qm 6 15] [6]) .ret)
theorem c147:FB 147 [2000003,2000004,2000005]=some (r147,s147):=by kernel_rfl
def r150:RL:=[(4,none)]
def s150:SCode:=qR [Qf 4] [0,1] (qR [Qm 5 0,Qm 6 1,Q2 7 240 5 6,Qu 8 .geq 7 0,Qm 4 8] [4] .ret)
theorem c150:FB 150 []=some (r150,s150):=by kernel_rfl
def r153:RL:=[(6,some (true,8))]
def s153:SCode:=qR [QB 3 27 8 0,Qb 4 3 1,QU 6 27] [2,3,4,6] (qs (qR [Qa 12 0 3,Ql 13 3 12,Ql 14 3 4,qa 15 (.eqs false [1,1,1] (.t 13) (.t 14))] [2,3,4,6,15] (.cond (.t 15) (qR [Qa 16 7 3,Qo 17 16,Q1 18 203 17,Qa 19 7 3,QS 1 19 18] [2,3,6] (qR [Qm 20 2,qa 21 (.call (.t 20) [.t 3])] [3,6] (qR [Ql 22 8 3,QS 8 6 22] [6] .ret))) .skip)) (qR [Qa 23 7 3,Qo 24 23,Q1 25 203 24,Qm 7 25] [2,3,4,6,7] (qs (qR [Qm 26 7,Qn 27 26,Qi 28 0] [2,3,4,6,7,26,27,28] (qs (.block 0 (.loop (qR [Qv 29 .lss 28 27] [2,3,4,6,7,26,27,28,29] (qs (qX 29) (qs (qs (.block 1 (qR [Qm 30 28,Qx 31 8 26 28,Ql 32 8 31,QU 9 27,Qm 8 30,QS 8 9 32] [2,3,4,6,7,8,9,26,27,28] (qR [Ql 34 8 9,Ql 35 3 4,Q2 36 44 34 35,Qm 33 36,Qe 37 0 33,Qe 38 1 33,QU 10 27,QS 8 10 37,Qm 11 38] [2,3,4,6,7,8,9,11,26,27,28] (qR [Qm 39 11] [2,3,4,6,7,8,9,26,27,28,39] (.cond (.t 39) (qR [Qm 40 7,Qm 41 8,Ql 42 8 9,Ql 43 3 4,Qm 44 2,Q3 45 153 42 43 44,Qx 46 8 40 41,QS 8 46 45] [3,6,7] (.exit 0)) .skip))))) (qr [] [2,3,4,6,7,26,27,28])) (qr [Qu 47 .add 28 1,Qm 28 47] [2,3,4,6,7,26,27,28])))))) (qr [] [3,6,7]))) (qR [Qm 48 7,Qa 49 7 3,QS 1 49 48] [3,6] (qR [Ql 50 8 3,QS 8 6 50] [6] .ret)))))
theorem c153:FB 153 [2000004]=some (r153,s153):=by kernel_rfl
def r156:RL:=[(4,some (true,8))]
def s156:SCode:=qR [Qb 2 8 0,Qb 3 3 1,QU 4 27] [2,3,4] (qR [Ql 9 8 2,Ql 10 3 3,Q2 11 131 9 10,Qm 8 11,Qe 12 0 8,Qe 13 1 8,Qe 14 2 8,qa 5 (.alloc 23 Zc5),qa 6 (.alloc 3 [.int .i64 0]),QS 3 5 12,QS 1 6 13,Qm 7 14] [2,4,5,6] (qR [Ql 15 8 2,Ql 16 3 5,qa 17 (.mkfun (.func 244) [] [.t 6]),Q3 18 153 15 16 17,QS 8 4 18] [4] .ret))
theorem c156:FB 156 [2000002,2000003]=some (r156,s156):=by kernel_rfl
def r159:RL:=[(12,none),(13,none)]
def s159:SCode:=qR [Qz 12,Qi 13 0] [0,1,2,3,4,5] (qs (qR [Qm 16 2,Qn 17 16,Qu 18 .eql 17 0,Qm 19 18,Ym 20 19 3,qc 21 19 (.bin .lss (.t 20) (qi 0)),Qq 22 19 21,Qm 23 22,Ym 24 23 1,qc 25 23 (.len (.t 24)),qc 26 23 (.bin .eql (.t 25) (qi 0)),Ym 27 23 26,Bm 28 27 3,qb 29 27 (.bin .neq (.t 28) (qi 0)),qc 30 23 (.pick (.t 27) (.t 29) qf),Qq 31 23 30] [0,1,2,3,4,5,31] (.cond (.t 31) (qR [Qz 12,Qi 13 1] [12,13] .ret) .skip)) (qs (qR [Qm 32 1,Qn 33 32,Qu 34 .eql 33 0] [0,1,2,3,4,5,34] (.cond (.t 34) (qR [Qm 35 0,qa 36 (.buildS 3 1 1 [.int .i64 0] [(0,qi 0)]),Qm 37 2,Qm 38 4,Qm 39 5,qa 40 (.call (.f 246) [.t 35,.t 36,qi 0,.t 37,.t 38,.t 39]),Qe 41 0 40,Qe 42 1 40,Qm 12 41,Qm 13 42] [12,13] .ret) .skip)) (qR [Qm 43 0,Qm 44 1,Qm 45 3,Q3 46 245 43 44 45,Q1 47 247 46,Qm 14 47] [0,1,2,4,5,14] (qs (qR [Qm 48 14,Qn 49 48,Qu 50 .eql 49 0] [0,1,2,4,5,14,50] (.cond (.t 50) (qR [Qz 12,Qi 13 4] [12,13] .ret) .skip)) (qs (qR [Qm 51 14,Qn 52 51,Qi 53 0] [0,1,2,4,5,14,52,53] (qs (.block 0 (.loop (qs (.ghost [Qv 54 .lss 53 52] [0,1,2,4,5,14,52,53,54]) (qs (qX 54) (qs (qs (.block 1 (qR [Qm 55 53,Qm 15 55] [0,1,2,4,5,14,15,52,53] (qr [Qm 56 14,Qm 57 15,Qx 58 1 56 57,Qo 59 58,Qm 60 1,Qn 61 60,Qv 62 .add 59 61,Qx 63 1 56 57,QS 1 63 62] [0,1,2,4,5,14,52,53]))) (qr [] [0,1,2,4,5,14,52,53])) (qr [Qu 64 .add 53 1,Qm 53 64] [0,1,2,4,5,14,52,53])))))) (qr [] [0,2,4,5,14]))) (qR [Qm 65 0,Qm 66 14,Qm 67 2,Qm 68 4,Qm 69 5,qa 70 (.call (.f 246) [.t 65,.t 66,qi 0,.t 67,.t 68,.t 69]),Qe 71 0 70,Qe 72 1 70,Qm 12 71,Qm 13 72] [12,13] .ret))))))
theorem c159:FB 159 [9]=some (r159,s159):=by kernel_rfl
def r162:RL:=[]
def s162:SCode:=qr [Qm 3 0,Qo 4 1,Qc 5 3,Qa 6 5 5,QS 1 6 4] []
theorem c162:FB 162 []=some (r162,s162):=by kernel_rfl
def r201:RL:=[(3,some (true,8))]
def s201:SCode:=qR [QB 2 27 8 0,QU 3 27] [1,2,3] (qs (.drawT (.step (Qa 4 7 2) (.both (.step (Qo 5 4) (.both (.step (Q1 6 203 5) (.both (.step (Qo 7 1) (.step (Qo 8 1) (.step Zc16 Zc1))) (.step (Qo 8 1) (.step Zc16 (.step (Qo 7 1) Zc1))))) (.both (.step (Qo 7 1) Zc10) (.step (Qo 8 1) (.step Zc16 Zc12))))) (.both (.step (Qo 7 1) (.both (.step (Qo 5 4) Zc10) (.step (Qo 8 1) (.step Zc16 (.step (Qo 5 4) Zc17))))) (.step (Qo 8 1) (.step Zc16 (.both (.step (Qo 5 4) Zc12) (.step (Qo 7 1) (.step (Qo 5 4) Zc17)))))))) [2,3]) (qR [Ql 12 8 2,QS 8 3 12] [3] .ret))
theorem c201:FB 201 []=some (r201,s201):=by kernel_rfl
def r204:RL:=[(2,none)]
def s204:SCode:=qR [Qf 2] [0,1] (qR [Ql 3 8 0,Q1 4 149 3,qa 5 (.mkfun (.func 205) [] [.t 1]),Q2 6 150 4 5,Qm 2 6] [2] .ret)
theorem c204:FB 204 []=some (r204,s204):=by kernel_rfl
def r207:RL:=[(1,none)]
def s207:SCode:=qR [Qf 1] [0] (qR [Qo 2 0,Qr 3 2,Qm 1 3] [1] .ret)
theorem c207:FB 207 []=some (r207,s207):=by kernel_rfl
def r210:RL:=[(2,none)]
def s210:SCode:=qR [Qf 2] [0,1] (qR [Qa 3 7 0,Qo 4 3,Qa 5 3 1,Qo 6 5,Qa 7 4 1,Qo 8 7,Q3 9 128 4 6 8,Qm 2 9] [2] .ret)
theorem c210:FB 210 []=some (r210,s210):=by kernel_rfl
def r216:RL:=[(4,none)]
def s216:SCode:=qR [Qb 3 8 0,Qf 4] [1,2,3] (qR [Qa 5 3 3,Qo 6 5,Qo 7 1,Qv 8 .eql 6 7,Qm 9 8,qb 10 9 (fa 4 3),qb 11 9 (lo 10),qb 12 9 (lo 2),qb 13 9 (.bin .eql (.t 11) (.t 12)),Qp 14 9 13,Qm 4 14] [4] .ret)
theorem c216:FB 216 [2000003]=some (r216,s216):=by kernel_rfl
def r222:RL:=[(2,none)]
def s222:SCode:=qR [Qb 1 4 0,Qf 2] [1] (qR [Qa 3 0 1,Qo 4 3,qa 5 (.buildS 9 1 1 [.str []] [(0,.t 4)]),Q1 6 223 5,Qr 7 6,Qm 2 7] [2] .ret)
theorem c222:FB 222 [2000001]=some (r222,s222):=by kernel_rfl
def r228:RL:=[(1,none)]
def s228:SCode:=qR [Qf 1] [0] (qR [Qo 2 0,Qn 3 2,Qu 4 .gtr 3 256,Qm 1 4] [1] .ret)
theorem c228:FB 228 []=some (r228,s228):=by kernel_rfl
def r231:RL:=[(4,none)]
def s231:SCode:=qR [Qb 2 8 0,Qb 3 2 1,Qf 4] [2,3] (qR [Qa 5 3 2,Qo 6 5,Qa 7 0 3,Qo 8 7,Qv 9 .eql 6 8,Qm 10 9,qb 11 10 (fa 4 2),qb 12 10 (lo 11),qb 13 10 (fa 1 3),qb 14 10 (lo 13),qb 15 10 (.bin .eql (.t 12) (.t 14)),Qp 16 10 15,Qm 4 16] [4] .ret)
theorem c231:FB 231 [2000002,2000003]=some (r231,s231):=by kernel_rfl
def r234:RL:=[(8,some (true,4)),(9,none)]
def s234:SCode:=qR [Qb 4 8 0,Qb 5 3 1,Qb 6 3 2,qa 8 (.alloc 212 Zc3),Qi 9 0] [3,4,5,6,8] (qR [Qm 17 3,Qu 18 .eql 17 2,Qm 19 18,Ym 20 19 3,qc 21 19 (.bin .eql (.t 20) (qi 3)),Qq 22 19 21,Qm 10 22] [3,4,5,6,8,10] (qR [Ql 24 8 4,Ql 25 3 5,Q2 26 131 24 25,Qm 23 26,Qe 27 0 23,Qe 28 1 23,Qe 29 2 23,qa 11 (.alloc 23 Zc5),QS 3 11 27,Qm 12 28,Qm 13 29] [3,4,5,6,8,10,11,12,13] (qs (.drawL [Qs 30 3 6,Qs 31 3 5,qa 32 (.eqs true [1,1,1] (.t 30) (.t 31)),Qm 33 32,qb 34 33 (.loadF true 8 (.t 4)),qb 35 33 (.loadF true 3 (.t 6)),qb 37 33 (.loadF true 3 (.t 5)),qb 36 33 (.call (.f 214) [.t 34,.t 35]),qb 38 33 (.call (.f 152) [.t 36,.t 37]),Qp 39 33 38,Qm 14 39] [3,4,5,6,8,10,11,12,13,14]) (qs (qR [Qm 40 13,Qr 41 40,Qm 42 41,Ym 43 42 14,Qq 44 42 43,Qm 45 44,qc 46 45 (lm 3 6),qc 47 45 (lm 3 5),qc 48 45 (.eqs false [1,1,1] (.t 46) (.t 47)),Ym 49 45 48,Bm 50 49 10,qb 51 49 (.not (.t 50)),qc 52 45 (.pick (.t 49) (.t 51) qf),Qq 53 45 52] [3,4,5,6,8,11,12,53] (.cond (.t 53) (qR [qa 54 (.build Zc3 []),QS 4 8 54,Qi 9 9] [8,9] .ret) .skip)) (qs (qR [Ql 55 3 6,Ql 56 3 5,qa 57 (.eqs false [1,1,1] (.t 55) (.t 56))] [3,4,6,8,11,12,57] (.cond (.t 57) (qR [Ql 58 3 11,Qm 59 12,qa 60 (.build Zc3 [(0,(3,.t 58)),(3,(1,.t 59))]),QS 4 8 60,Qi 9 0] [8,9] .ret) .skip)) (qs (.drawT (.step (Qm 63 3) (.step (Qs 65 8 4) (.step (Qs 66 3 6) (.both (.step (Q0 62 273) (.both (.step Zc13 (.both (.step (qa 67 (.call (.t 64) [.t 65,.t 66])) (.step (Qm 61 67) (.step (Qe 68 0 61) (.step (Qe 69 1 61) (.step Zc18 Zc23))))) (.step Zc18 Zc6))) (.step Zc18 (.step Zc13 Zc6)))) (.step Zc18 (.step (Q0 62 273) (.step Zc13 Zc6))))))) [8,11,12,15,16]) (qs (qR [Qm 70 16,Qu 71 .eql 70 0,Qm 72 71,qb 73 72 (fa 0 15),qb 74 72 (lm 3 73),qb 75 72 (lm 3 11),qb 76 72 (.eqs false [1,1,1] (.t 74) (.t 75)),Qp 77 72 76,Qm 78 77,Bm 79 78 12,qb 80 78 (fa 3 15),qb 81 78 (lo 80),qb 82 78 (.bin .lss (.t 79) (.t 81)),Qp 83 78 82] [8,15,16,83] (.cond (.t 83) (qr [Qa 84 3 15,Qo 85 84,Qu 86 .sub 85 1,Qa 87 3 15,QS 1 87 86] [8,15,16]) .skip)) (qR [Ql 88 4 15,Qm 89 16,QS 4 8 88,Qm 9 89] [8,9] .ret))))))))
theorem c234:FB 234 [2000004,2000005,2000006]=some (r234,s234):=by kernel_rfl
def r240:RL:=[(4,none)]
def s240:SCode:=qR [Qi 4 0] [0,1] (qs (qR [Qm 6 0,Qn 7 6,Qi 8 0] [0,1,7,8] (qs (.block 0 (.loop (qR [Qv 9 .lss 8 7] [0,1,7,8,9] (qs (qX 9) (qs (qs (.block 1 (qR [Qm 10 8,Qm 5 10] [0,1,5,7,8] (qR [Qm 11 1,Qm 12 0,Qm 13 5,Qx 14 3 12 13,Ql 15 3 14,qa 16 (.call (.t 11) [.t 15])] [0,1,5,7,8,16] (.cond (.t 16) (qR [Qm 17 5,Qm 4 17] [4] .ret) .skip)))) (qr [] [0,1,7,8])) (qr [Qu 18 .add 8 1,Qm 8 18] [0,1,7,8])))))) (qr [] []))) (qR [Qi 4 (-1)] [4] .ret))
theorem c240:FB 240 []=some (r240,s240):=by kernel_rfl
def r246:RL:=[(12,none),(13,none)]
def s246:SCode:=qR [Qz 12,Qi 13 0] [0,1,2,3,4,5] (qR [Qm 18 0,Qn 19 18,qa 20 (.raw (.makeSlice 24 (.tmp 19) (.tmp 19))),Qm 14 20] [0,1,2,3,4,5,14] (qR [Qm 21 14,Qm 22 0,qa 23 (.raw (.call (.mk (.builtin .copy) #[.tmp 21,.tmp 22] #[24,24])))] [1,2,3,4,5,14] (qs (qR [Qm 24 1,Qn 25 24,Qu 26 .sub 25 1,Qm 15 26] [1,2,3,4,5,14,15] (qs (.block 0 (.loop (qs (qR [Qm 27 15,Qu 28 .geq 27 0] [1,2,3,4,5,14,15,28] (qX 28)) (qs (qs (.block 1 (qR [Qm 31 1,Qm 32 15,Qx 33 1 31 32,Qo 34 33,Qm 16 34] [1,2,3,4,5,14,15,16] (qR [Qm 35 14,Qm 36 16,Qm 37 2,Qv 38 .add 36 37,qa 39 (.raw (.slice 24 (.tmp 35) (some (.tmp 38)) none none)),Qm 17 39] [1,2,3,4,5,14,15,16,17] (.drawT (.step (Qm 40 14) (.step (Qm 41 16) (.step (Qm 42 16) (.step (Qm 44 3) (.step (Qm 45 4) (.step (Qm 46 5) (.step (Qm 47 15) (.step (Qm 48 3) (.step (Qn 49 48) (.step (Qv 50 .mul 47 49) (.step (Qm 53 17) (.both (.step Zc15 (.step (Q4 51 161 44 45 46 50) Zc8)) (.step (Q4 51 161 44 45 46 50) (.step Zc15 Zc8)))))))))))))) [1,2,3,4,5,14,15])))) (qr [] [1,2,3,4,5,14,15])) (qr [Qm 29 15,Qu 30 .sub 29 1,Qm 15 30] [1,2,3,4,5,14,15]))))) (qr [] [14]))) (qs (qR [Qm 55 14,Qn 56 55,Qu 57 .gtr 56 256] [14,57] (.cond (.t 57) (qR [Qz 12,Qi 13 6] [12,13] .ret) .skip)) (qR [Qm 58 14,Qm 12 58,Qi 13 0] [12,13] .ret)))))
theorem c246:FB 246 [3000039,3000052,3000054]=some (r246,s246):=by kernel_rfl
def r273:RL:=[(0,some (true,4))]
def s273:SCode:=qR [qa 0 (.alloc 246 [.sc .nilFunc,.sc .nilFunc,.sc .nilFunc,.sc .nilFunc])] [0] (qR [qa 1 (.raw (.build 246 #[(0,.func 298),(1,.func 301),(2,.func 303),(3,.func 305)])),QS 4 0 1] [0] .ret)
theorem c273:FB 273 []=some (r273,s273):=by kernel_rfl
def r276:RL:=[(4,none)]
def s276:SCode:=qR [Qz 4] [0,1] (qR [Qz 5] [0,1,5] (qs (qR [Qm 7 1,Qn 8 7,Qu 9 .eql 8 0] [0,1,5,9] (.cond (.t 9) (qR [Qz 4] [4] .ret) .skip)) (qs (qR [Qi 6 0] [0,1,5,6] (qs (.block 0 (.loop (qs (qR [Qm 10 6,Qm 11 1,Qn 12 11,Qv 13 .add 10 12,Qm 14 0,Qn 15 14,Qv 16 .leq 13 15] [0,1,5,6,16] (qX 16)) (qs (.block 1 (qs (qR [Qm 17 0,Qm 18 6,Qm 19 6,Qm 20 1,Qn 21 20,Qv 22 .add 19 21,qa 23 (.slice 1 (.t 17) (some (.t 18)) (some (.t 22))),Qm 24 1,Q2 25 192 23 24,Qr 26 25] [0,1,5,6,26] (.cond (.t 26) (qR [Qm 27 6,Qu 28 .add 27 1,Qm 6 28] [0,1,5,6] (.exit 1)) .skip)) (qR [Qm 29 5,Qm 30 6,qa 31 (.buildS 3 1 1 [.int .i64 0] [(0,.t 30)]),Qw 32 3 1 8 29 31,Qm 5 32] [0,1,5,6] (qr [Qm 33 6,Qm 34 1,Qn 35 34,Qv 36 .add 33 35,Qm 6 36] [0,1,5,6])))) (qr [] [0,1,5,6]))))) (qr [] [5]))) (qR [Qm 37 5,Qm 4 37] [4] .ret))))
theorem c276:FB 276 []=some (r276,s276):=by kernel_rfl
def r300:RL:=[(2,none)]
def s300:SCode:=qR [Qi 2 0] [] (qR [Qi 2 0] [2] .ret)
theorem c300:FB 300 []=some (r300,s300):=by kernel_rfl
def r303:RL:=[(4,some (true,4)),(5,none)]
def s303:SCode:=qR [Qb 2 8 0,Qb 3 3 1,qa 4 (.alloc 212 Zc3),Qi 5 0] [2,3,4] (qR [Ql 6 8 2,Ql 7 3 3,qa 8 (.call (.f 304) [.t 6,.t 7,qi 1]),Qe 9 0 8,Qe 10 1 8,QS 4 4 9,Qm 5 10] [4,5] .ret)
theorem c303:FB 303 [2000002,2000003]=some (r303,s303):=by kernel_rfl
end Go.Av
