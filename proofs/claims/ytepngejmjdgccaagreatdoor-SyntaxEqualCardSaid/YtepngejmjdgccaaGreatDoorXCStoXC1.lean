/-
  SHORT FORMS for the printed code.
-/
import Derived.Test.YtepngejmjdgccaaGreatDoorProg
import Derived.Test.YtepngejmjdgccaaGreatDoorXGlobtoXDat
import Derived.Test.YtepngejmjdgccaaGreatDoorXAv24toXOpenG
namespace Go.Av
open Go
set_option linter.unusedSimpArgs false
set_option linter.unusedVariables false
abbrev qa (d:Nat) (x:SOp):SOper:=⟨some d,none,x⟩
abbrev qb (d g:Nat) (x:SOp):SOper:=⟨some d,some (g,true),x⟩
abbrev qc (d g:Nat) (x:SOp):SOper:=⟨some d,some (g,false),x⟩
abbrev qi (n:Int):SOpd:=.c (.int .i64 n)
abbrev qt:SOpd:=.c (.bool true)
abbrev qf:SOpd:=.c (.bool false)
abbrev qs (a b:SCode):SCode:=.seq a b
abbrev ql (x:SOpd):SOp:=.load false 1 x
abbrev mt (a:Nat):SOp:=.mov (.t a)
abbrev fa (a b:Nat):SOp:=.fieldA a (.t b)
abbrev lo (a:Nat):SOp:=ql (.t a)
abbrev lm (a b:Nat):SOp:=.load true a (.t b)
abbrev qr (a:List SOper) (b:List Nat):SCode:=.region a b
abbrev RL:=List (Nat×Option (Bool×Nat))
abbrev Qm (d:Nat) (a:Nat):SOper:=qa d (mt a)
abbrev Bm (d k:Nat) (a:Nat):SOper:=qb d k (mt a)
abbrev Ym (d k:Nat) (a:Nat):SOper:=qc d k (mt a)
abbrev Qo (d:Nat) (a:Nat):SOper:=qa d (lo a)
abbrev Qa (d:Nat) (a:Nat) (b:Nat):SOper:=qa d (fa a b)
abbrev Ql (d:Nat) (a:Nat) (b:Nat):SOper:=qa d (lm a b)
abbrev Qe (d:Nat) (a:Nat) (b:Nat):SOper:=qa d (.extract a (.t b))
abbrev Qb (d:Nat) (a:Nat) (b:Nat):SOper:=qa d (.boxR a (.t b))
abbrev QB (d:Nat) (a:Nat) (b:Nat) (c:Nat):SOper:=qa d (.box a b (.t c))
abbrev Qi (d:Nat) (m:Int):SOper:=qa d (.mov (qi m))
abbrev Qf (d:Nat):SOper:=qa d (.mov qf)
abbrev Qt (d:Nat):SOper:=qa d (.mov qt)
abbrev Qz (d:Nat):SOper:=qa d (.mov (.c .nil))
abbrev Qp (d:Nat) (a:Nat) (b:Nat):SOper:=qa d (.pick (.t a) (.t b) qf)
abbrev Qq (d:Nat) (a:Nat) (b:Nat):SOper:=qa d (.pick (.t a) qt (.t b))
abbrev Qn (d:Nat) (a:Nat):SOper:=qa d (.len (.t a))
abbrev QN (d:Nat) (a:Nat):SOper:=qa d (.lenS (.t a))
abbrev Qx (d:Nat) (a:Nat) (b:Nat) (c:Nat):SOper:=qa d (.indexA a (.t b) (.t c))
abbrev QU (d:Nat) (a:Nat):SOper:=qa d (.alloc a zU)
abbrev Qw (d:Nat) (a:Nat) (b:Nat) (c:Nat) (e:Nat) (f:Nat):SOper:=qa d (.append a b c (.t e) (.t f))
abbrev Qc (d:Nat) (a:Nat):SOper:=qa d (.nilCheck (.t a))
abbrev Qr (d:Nat) (a:Nat):SOper:=qa d (.not (.t a))
abbrev Qs (d:Nat) (a:Nat) (b:Nat):SOper:=qa d (.loadF true a (.t b))
abbrev Q0 (d:Nat) (a:Nat):SOper:=qa d (.call (.f a) [])
abbrev Q1 (d:Nat) (a:Nat) (b:Nat):SOper:=qa d (.call (.f a) [.t b])
abbrev Q2 (d:Nat) (a:Nat) (b:Nat) (c:Nat):SOper:=qa d (.call (.f a) [.t b,.t c])
abbrev Q3 (d:Nat) (a:Nat) (b:Nat) (c:Nat) (e:Nat):SOper:=qa d (.call (.f a) [.t b,.t c,.t e])
abbrev Q4 (d:Nat) (a:Nat) (b:Nat) (c:Nat) (e:Nat) (f:Nat):SOper:=qa d (.call (.f a) [.t b,.t c,.t e,.t f])
abbrev Q5 (d:Nat) (a:Nat) (b:Nat) (c:Nat) (e:Nat) (f:Nat) (g:Nat):SOper:=qa d (.call (.f a) [.t b,.t c,.t e,.t f,.t g])
abbrev Q6 (d:Nat) (a:Nat) (b:Nat) (c:Nat) (e:Nat) (f:Nat) (g:Nat) (h:Nat):SOper:=qa d (.call (.f a) [.t b,.t c,.t e,.t f,.t g,.t h])
abbrev Qu (d:Nat) (o:BinOp) (a:Nat) (m:Int):SOper:=qa d (.bin o (.t a) (qi m))
abbrev Qv (d:Nat) (o:BinOp) (a:Nat) (b:Nat):SOper:=qa d (.bin o (.t a) (.t b))
abbrev QA (d:Nat):SOper:=qa d (.build zU [])
abbrev QI (d:Nat) (a:Nat) (b:Nat):SOper:=qa d (.index (.t a) (.t b))
abbrev QS (a b c:Nat):SOper:=⟨none,none,.store a (.t b) (.t c)⟩
abbrev qR (a:List SOper) (b:List Nat) (c:SCode):SCode:=qs (qr a b) c
abbrev qX (a:Nat):SCode:=.cond (.t a) .skip (.exit 0)
abbrev qL (a:SCode):SCode:=.block 0 (.loop a)
noncomputable abbrev FB (k:Nat) (l:List Nat):=fnAt Proofs.Tryz.prog k l
def r6:RL:=[(6,none)]
def s6:SCode:=qR [Qf 6] [0,1,2] (qR [Qm 7 0,Qm 8 1,Qv 9 .geq 7 8,Qm 10 9,Bm 11 10 0,Bm 12 10 2,qb 13 10 (.bin .leq (.t 11) (.t 12)),Qp 14 10 13,Qm 6 14] [6] .ret)
theorem c6:FB 6 []=some (r6,s6):=by kernel_rfl
def r9:RL:=[(2,none)]
def s9:SCode:=qR [Qf 2] [0] (qR [Qm 3 0,Qu 4 .geq 3 0,Qm 5 4,Bm 6 5 0,qb 7 5 (.bin .leq (.t 6) (qi 6)),Qp 8 5 7,Qm 2 8] [2] .ret)
theorem c9:FB 9 []=some (r9,s9):=by kernel_rfl
def r12:RL:=[(4,none)]
def s12:SCode:=qR [Qb 2 25 0,Qb 3 25 1,Qf 4] [2,3] (qs (qR [Qa 6 0 2,Qo 7 6,Qa 8 0 3,Qo 9 8,Qv 10 .neq 7 9,Qm 11 10,qc 12 11 (fa 3 2),qc 13 11 (lo 12),qc 14 11 (fa 3 3),qc 15 11 (lo 14),qc 16 11 (.bin .neq (.t 13) (.t 15)),Qq 17 11 16,Qm 18 17,qc 19 18 (fa 4 2),qc 20 18 (lo 19),qc 21 18 (fa 4 3),qc 22 18 (lo 21),qc 23 18 (.bin .neq (.t 20) (.t 22)),Qq 24 18 23,Qm 25 24,qc 26 25 (fa 15 2),qc 27 25 (lo 26),qc 28 25 (fa 15 3),qc 29 25 (lo 28),qc 30 25 (.bin .neq (.t 27) (.t 29)),Qq 31 25 30,Qm 32 31,qc 33 32 (fa 16 2),qc 34 32 (lo 33),qc 35 32 (fa 16 3),qc 36 32 (lo 35),qc 37 32 (.bin .neq (.t 34) (.t 36)),Qq 38 32 37,Qm 39 38,qc 40 39 (fa 17 2),qc 41 39 (lm 3 40),qc 42 39 (fa 17 3),qc 43 39 (lm 3 42),qc 44 39 (.eqs true [1,1,2] (.t 41) (.t 43)),Qq 45 39 44,Qm 46 45,qc 47 46 (fa 20 2),qc 48 46 (lo 47),qc 49 46 (fa 20 3),qc 50 46 (lo 49),qc 51 46 (.bin .neq (.t 48) (.t 50)),Qq 52 46 51,Qm 53 52,qc 54 53 (fa 21 2),qc 55 53 (lo 54),qc 56 53 (fa 21 3),qc 57 53 (lo 56),qc 58 53 (.bin .neq (.t 55) (.t 57)),Qq 59 53 58,Qm 60 59,qc 61 60 (fa 22 2),qc 62 60 (lo 61),qc 63 60 (fa 22 3),qc 64 60 (lo 63),qc 65 60 (.bin .neq (.t 62) (.t 64)),Qq 66 60 65,Qm 67 66,qc 68 67 (fa 23 2),qc 69 67 (lo 68),qc 70 67 (fa 23 3),qc 71 67 (lo 70),qc 72 67 (.bin .neq (.t 69) (.t 71)),Qq 73 67 72] [2,3,73] (.cond (.t 73) (qR [Qf 4] [4] .ret) .skip)) (qs (qR [Qa 74 1 2,Qo 75 74,Qa 76 1 3,Qo 77 76,Q2 78 22 75 77,Qr 79 78,Qm 80 79,qc 81 80 (fa 2 2),qc 82 80 (lo 81),qc 83 80 (fa 2 3),qc 84 80 (lo 83),qc 85 80 (.call (.f 22) [.t 82,.t 84]),qc 86 80 (.not (.t 85)),Qq 87 80 86,Qm 88 87,qc 89 88 (fa 13 2),qc 90 88 (lo 89),qc 91 88 (fa 13 3),qc 92 88 (lo 91),qc 93 88 (.call (.f 23) [.t 90,.t 92]),qc 94 88 (.not (.t 93)),Qq 95 88 94,Qm 96 95,qc 97 96 (fa 14 2),qc 98 96 (lo 97),qc 99 96 (fa 14 3),qc 100 96 (lo 99),qc 101 96 (.call (.f 23) [.t 98,.t 100]),qc 102 96 (.not (.t 101)),Qq 103 96 102,Qm 104 103,qc 105 104 (fa 5 2),qc 106 104 (lm 8 105),qc 107 104 (fa 5 3),qc 108 104 (lm 8 107),qc 109 104 (.call (.f 24) [.t 106,.t 108]),qc 110 104 (.not (.t 109)),Qq 111 104 110,Qm 112 111,qc 113 112 (fa 24 2),qc 114 112 (lo 113),qc 115 112 (.len (.t 114)),qc 116 112 (fa 24 3),qc 117 112 (lo 116),qc 118 112 (.len (.t 117)),qc 119 112 (.bin .neq (.t 115) (.t 118)),Qq 120 112 119] [2,3,120] (.cond (.t 120) (qR [Qf 4] [4] .ret) .skip)) (qs (qR [Qi 5 0] [2,3,5] (qs (.block 0 (.loop (qs (qR [Qm 121 5,Qa 122 24 2,Qo 123 122,Qn 124 123,Qv 125 .lss 121 124] [2,3,5,125] (qX 125)) (qs (qs (.block 1 (qs (.drawT (.step (Qa 128 24 2) (.step (qa 129 (.loadF false 1 (.t 128))) (.step (Qm 130 5) (.step (Qx 131 25 129 130) (.step (Qa 133 24 3) (.step (qa 134 (.loadF false 1 (.t 133))) (.step (Qm 135 5) (.step (Qx 136 25 134 135) (.both (.step (Ql 132 25 131) (.step (Ql 137 25 136) (.step (Q2 138 12 132 137) (.step (Qr 139 138) .done)))) (.step (Ql 137 25 136) (.step (Ql 132 25 131) (.step (Q2 138 12 132 137) (.step (Qr 139 138) .done))))))))))))) [2,3,5,139]) (.cond (.t 139) (qR [Qf 4] [4] .ret) .skip))) (qr [] [2,3,5])) (qr [Qm 126 5,Qu 127 .add 126 1,Qm 5 127] [2,3,5]))))) (qr [] []))) (qR [Qt 4] [4] .ret))))
theorem c12:FB 12 [2000002,2000003]=some (r12,s12):=by kernel_rfl
def r18:RL:=[(4,none)]
def s18:SCode:=qR [Qf 4] [0,1] (qs (qR [Qm 6 0,Qn 7 6,Qm 8 1,Qn 9 8,Qv 10 .neq 7 9] [0,1,10] (.cond (.t 10) (qR [Qf 4] [4] .ret) .skip)) (qs (qR [Qm 11 0,Qn 12 11,Qi 13 0] [0,1,12,13] (qs (.block 0 (.loop (qR [Qv 14 .lss 13 12] [0,1,12,13,14] (qs (qX 14) (qs (qs (.block 1 (qR [Qm 15 13,Qm 5 15] [0,1,5,12,13] (qs (.draw [Qm 16 0,Qm 17 5,Qx 18 2 16 17,Ql 19 2 18,Qm 20 1,Qm 21 5,Qx 22 2 20 21,Ql 23 2 22,qa 24 (.eqs true [1,2] (.t 19) (.t 23))] [0,1,12,13,24]) (.cond (.t 24) (qR [Qf 4] [4] .ret) .skip)))) (qr [] [0,1,12,13])) (qr [Qu 25 .add 13 1,Qm 13 25] [0,1,12,13])))))) (qr [] []))) (qR [Qt 4] [4] .ret)))
theorem c18:FB 18 []=some (r18,s18):=by kernel_rfl
def r21:RL:=[(6,none)]
def s21:SCode:=qR [Qf 6] [0,1,2] (qs (qR [Qm 10 0,Qn 11 10,Qm 12 1,Qn 13 12,Qv 14 .neq 11 13] [0,1,2,14] (.cond (.t 14) (qR [Qf 6] [6] .ret) .skip)) (qs (qR [Qm 15 0,Qn 16 15,Qi 17 0] [1,2,15,16,17] (qs (.block 0 (.loop (qR [Qv 18 .lss 17 16] [1,2,15,16,17,18] (qs (qX 18) (qs (qs (.block 1 (qR [Qm 19 17,Qx 20 25 15 17,Ql 21 25 20,qa 8 (.alloc 39 zItm),Qm 7 19,QS 25 8 21] [1,2,7,8,15,16,17] (qR [Qm 22 1,Qm 23 7,Qx 24 25 22 23,Ql 25 25 24,qa 9 (.alloc 39 zItm),QS 25 9 25] [1,2,8,9,15,16,17] (qR [Qm 26 2,Ql 27 25 8,Ql 28 25 9,qa 29 (.call (.t 26) [.t 27,.t 28]),Qr 30 29] [1,2,15,16,17,30] (.cond (.t 30) (qR [Qf 6] [6] .ret) .skip))))) (qr [] [1,2,15,16,17])) (qr [Qu 31 .add 17 1,Qm 17 31] [1,2,15,16,17])))))) (qr [] []))) (qR [Qt 6] [6] .ret)))
theorem c21:FB 21 []=some (r21,s21):=by kernel_rfl
def r24:RL:=[(4,none)]
def s24:SCode:=qR [Qb 2 8 0,Qb 3 8 1,Qf 4] [2,3] (qs (qR [Qa 6 0 2,Ql 7 3 6,Qa 8 0 3,Ql 9 3 8,qa 10 (.eqs true [1,1,1] (.t 7) (.t 9)),Qm 11 10,qc 12 11 (fa 3 2),qc 13 11 (lo 12),qc 14 11 (fa 3 3),qc 15 11 (lo 14),qc 16 11 (.bin .neq (.t 13) (.t 15)),Qq 17 11 16,Qm 18 17,qc 19 18 (fa 4 2),qc 20 18 (lo 19),qc 21 18 (fa 4 3),qc 22 18 (lo 21),qc 23 18 (.bin .neq (.t 20) (.t 22)),Qq 24 18 23,Qm 25 24,qc 26 25 (fa 5 2),qc 27 25 (lo 26),qc 28 25 (fa 5 3),qc 29 25 (lo 28),qc 30 25 (.call (.f 49) [.t 27,.t 29]),qc 31 25 (.not (.t 30)),Qq 32 25 31,Qm 33 32,qc 34 33 (fa 6 2),qc 35 33 (lo 34),qc 36 33 (fa 6 3),qc 37 33 (lo 36),qc 38 33 (.call (.f 49) [.t 35,.t 37]),qc 39 33 (.not (.t 38)),Qq 40 33 39,Qm 41 40,qc 42 41 (fa 7 2),qc 43 41 (lo 42),qc 44 41 (.len (.t 43)),qc 45 41 (fa 7 3),qc 46 41 (lo 45),qc 47 41 (.len (.t 46)),qc 48 41 (.bin .neq (.t 44) (.t 47)),Qq 49 41 48] [2,3,49] (.cond (.t 49) (qR [Qf 4] [4] .ret) .skip)) (qs (qR [Qi 5 0] [2,3,5] (qs (.block 0 (.loop (qs (qR [Qm 50 5,Qa 51 7 2,Qo 52 51,Qn 53 52,Qv 54 .lss 50 53] [2,3,5,54] (qX 54)) (qs (qs (.block 1 (qs (.drawT (.step (Qa 57 7 2) (.step (qa 58 (.loadF false 1 (.t 57))) (.step (Qm 59 5) (.step (Qx 60 8 58 59) (.step (Qa 62 7 3) (.step (qa 63 (.loadF false 1 (.t 62))) (.step (Qm 64 5) (.step (Qx 65 8 63 64) (.both (.step (Ql 61 8 60) (.step (Ql 66 8 65) (.step (Q2 67 24 61 66) (.step (Qr 68 67) .done)))) (.step (Ql 66 8 65) (.step (Ql 61 8 60) (.step (Q2 67 24 61 66) (.step (Qr 68 67) .done))))))))))))) [2,3,5,68]) (.cond (.t 68) (qR [Qf 4] [4] .ret) .skip))) (qr [] [2,3,5])) (qr [Qm 55 5,Qu 56 .add 55 1,Qm 5 56] [2,3,5]))))) (qr [] []))) (qR [Qt 4] [4] .ret)))
theorem c24:FB 24 [2000002,2000003]=some (r24,s24):=by kernel_rfl
def r27:RL:=[(2,none)]
def s27:SCode:=qR [Qf 2] [0] (qs (qR [Qm 5 0,QN 6 5,Qu 7 .lss 6 1,Qm 8 7,Ym 9 8 0,qc 10 8 (.lenS (.t 9)),qc 11 8 (.bin .gtr (.t 10) (qi 16)),Qq 12 8 11,Qm 13 12,Ym 14 13 0,qc 15 13 (.index (.t 14) (qi 0)),qc 16 13 (.bin .lss (.t 15) (.c (.int .u8 97))),Qq 17 13 16,Qm 18 17,Ym 19 18 0,qc 20 18 (.index (.t 19) (qi 0)),qc 21 18 (.bin .gtr (.t 20) (.c (.int .u8 122))),Qq 22 18 21] [0,22] (.cond (.t 22) (qR [Qf 2] [2] .ret) .skip)) (qs (qR [Qi 3 0] [0,3] (qs (.block 0 (.loop (qs (qR [Qm 23 3,Qm 24 0,QN 25 24,Qv 26 .lss 23 25] [0,3,26] (qX 26)) (qs (qs (.block 1 (qR [Qm 29 0,Qm 30 3,QI 31 29 30,Qm 4 31] [0,3,4] (qR [Qm 32 4,qa 33 (.bin .geq (.t 32) (.c (.int .u8 97))),Qm 34 33,Bm 35 34 4,qb 36 34 (.bin .leq (.t 35) (.c (.int .u8 122))),Qp 37 34 36,Qm 38 37,Ym 39 38 4,qc 40 38 (.bin .geq (.t 39) (.c (.int .u8 48))),Ym 41 38 40,Bm 42 41 4,qb 43 41 (.bin .leq (.t 42) (.c (.int .u8 57))),qc 44 38 (.pick (.t 41) (.t 43) qf),Qq 45 38 44,Qm 46 45,Ym 47 46 4,qc 48 46 (.bin .eql (.t 47) (.c (.int .u8 45))),Qq 49 46 48,Qr 50 49] [0,3,50] (.cond (.t 50) (qR [Qf 2] [2] .ret) .skip)))) (qr [] [0,3])) (qr [Qm 27 3,Qu 28 .add 27 1,Qm 3 28] [0,3]))))) (qr [] []))) (qR [Qt 2] [2] .ret)))
theorem c27:FB 27 []=some (r27,s27):=by kernel_rfl
def r30:RL:=[(2,none)]
def s30:SCode:=qR [Qb 1 8 0,Qf 2] [1] (qs (.drawL [Qs 3 8 1,Q1 4 53 3,Qm 5 4,qb 6 5 (.loadF true 8 (.t 1)),qb 7 5 (.loadF true 8 (.t 1)),qb 8 5 (.call (.f 54) [.t 7]),qb 9 5 (.call (.f 24) [.t 6,.t 8]),Qp 10 5 9,Qm 2 10] [2]) .ret)
theorem c30:FB 30 [2000001]=some (r30,s30):=by kernel_rfl
def r45:RL:=[(6,none)]
def s45:SCode:=qR [Qb 3 8 0,Qi 6 0] [1,2,3] (qs (qR [Qm 9 1,Qu 10 .gtr 9 20] [1,2,3,10] (.cond (.t 10) (qR [Qm 11 2,Qu 12 .add 11 1,Qm 6 12] [6] .ret) .skip)) (qR [Qi 7 1] [1,2,3,7] (qs (qR [Qi 8 0] [1,2,3,7,8] (qs (.block 0 (.loop (qs (qR [Qm 13 8,Qa 14 7 3,Qo 15 14,Qn 16 15,Qv 17 .lss 13 16,Qm 18 17,Bm 19 18 7,Bm 20 18 2,qb 21 18 (.bin .leq (.t 19) (.t 20)),Qp 22 18 21] [1,2,3,7,8,22] (qX 22)) (qs (qs (.block 1 (qr [Qm 25 7,Qa 26 7 3,Qo 27 26,Qm 28 8,Qx 29 8 27 28,Ql 30 8 29,Qm 31 1,Qu 32 .add 31 1,Qm 33 2,Qm 34 7,Qv 35 .sub 33 34,Q3 36 45 30 32 35,Qv 37 .add 25 36,Qm 7 37] [1,2,3,7,8])) (qr [] [1,2,3,7,8])) (qr [Qm 23 8,Qu 24 .add 23 1,Qm 8 24] [1,2,3,7,8]))))) (qr [] [7]))) (qR [Qm 38 7,Qm 6 38] [6] .ret))))
theorem c45:FB 45 [2000003]=some (r45,s45):=by kernel_rfl
def r48:RL:=[(6,none)]
def s48:SCode:=qR [Qf 6] [0,1,2] (qs (qR [Qm 10 0,Qn 11 10,Qm 12 1,Qn 13 12,Qv 14 .neq 11 13] [0,1,2,14] (.cond (.t 14) (qR [Qf 6] [6] .ret) .skip)) (qs (qR [Qm 15 0,Qn 16 15,Qi 17 0] [1,2,15,16,17] (qs (.block 0 (.loop (qR [Qv 18 .lss 17 16] [1,2,15,16,17,18] (qs (qX 18) (qs (qs (.block 1 (qR [Qm 19 17,Qx 20 8 15 17,Ql 21 8 20,QU 8 34,Qm 7 19,QS 8 8 21] [1,2,7,8,15,16,17] (qR [Qm 22 1,Qm 23 7,Qx 24 8 22 23,Ql 25 8 24,QU 9 34,QS 8 9 25] [1,2,8,9,15,16,17] (qR [Qm 26 2,Ql 27 8 8,Ql 28 8 9,qa 29 (.call (.t 26) [.t 27,.t 28]),Qr 30 29] [1,2,15,16,17,30] (.cond (.t 30) (qR [Qf 6] [6] .ret) .skip))))) (qr [] [1,2,15,16,17])) (qr [Qu 31 .add 17 1,Qm 17 31] [1,2,15,16,17])))))) (qr [] []))) (qR [Qt 6] [6] .ret)))
theorem c48:FB 48 []=some (r48,s48):=by kernel_rfl
def r51:RL:=[(2,none)]
def s51:SCode:=qR [Qb 1 8 0,Qf 2] [1] (qR [Ql 3 8 1,qa 4 (.call (.f 77) [.t 3,qi 0]),Qm 5 4,qb 6 5 (lm 8 1),qb 7 5 (.call (.f 78) [.t 6]),qb 8 5 (.bin .leq (.t 7) (qi 1024)),Qp 9 5 8,Qm 2 9] [2] .ret)
theorem c51:FB 51 [2000001]=some (r51,s51):=by kernel_rfl
def r54:RL:=[(2,some (true,8))]
def s54:SCode:=qR [Qb 1 8 0,QU 2 34] [1,2] (qs (.drawT (.step (Qa 5 3 1) (.step (qa 6 (.loadF false 1 (.t 5))) (.step (Qa 7 4 1) (.step (qa 8 (.loadF false 1 (.t 7))) (.step (Qa 9 5 1) (.step (qa 10 (.loadF false 1 (.t 9))) (.step (Qa 12 6 1) (.step (qa 13 (.loadF false 1 (.t 12))) (.both (.step (Q1 11 84 10) (.both (.step (Q1 14 84 13) (.step (qa 15 (.build zU [(3,(1,.t 6)),(4,(1,.t 8)),(5,(1,.t 11)),(6,(1,.t 14))])) (.step (QU 3 34) (.step (QS 8 3 15) .done)))) (.step (QU 3 34) (.step (Q1 14 84 13) (.step (qa 15 (.build zU [(3,(1,.t 6)),(4,(1,.t 8)),(5,(1,.t 11)),(6,(1,.t 14))])) (.step (QS 8 3 15) .done)))))) (.step (QU 3 34) (.step (Q1 11 84 10) (.step (Q1 14 84 13) (.step (qa 15 (.build zU [(3,(1,.t 6)),(4,(1,.t 8)),(5,(1,.t 11)),(6,(1,.t 14))])) (.step (QS 8 3 15) .done)))))))))))))) [1,2,3]) (qs (qR [Qi 4 0] [1,2,3,4] (qs (.block 0 (.loop (qs (qR [Qm 16 4,Qa 17 7 1,Qo 18 17,Qn 19 18,Qv 20 .lss 16 19] [1,2,3,4,20] (qX 20)) (qs (qs (.block 1 (.drawT (.step (Qa 23 7 3) (.step (Qa 25 7 1) (.step (qa 26 (.loadF false 1 (.t 25))) (.step (Qm 27 4) (.step (Qx 28 8 26 27) (.both (.step (Qo 24 23) (.step (Ql 29 8 28) (.step (Q1 30 54 29) (.step (qa 31 (.buildS 34 8 1 zU [(0,.t 30)])) (.step (Qw 32 34 8 120 24 31) (.step (Qa 33 7 3) (.step (QS 1 33 32) .done))))))) (.step (Ql 29 8 28) (.both (.step (Qo 24 23) (.step (Q1 30 54 29) (.step (qa 31 (.buildS 34 8 1 zU [(0,.t 30)])) (.step (Qw 32 34 8 120 24 31) (.step (Qa 33 7 3) (.step (QS 1 33 32) .done)))))) (.step (Q1 30 54 29) (.both (.step (Qo 24 23) (.step (qa 31 (.buildS 34 8 1 zU [(0,.t 30)])) (.step (Qw 32 34 8 120 24 31) (.step (Qa 33 7 3) (.step (QS 1 33 32) .done))))) (.step (qa 31 (.buildS 34 8 1 zU [(0,.t 30)])) (.step (Qo 24 23) (.step (Qw 32 34 8 120 24 31) (.step (Qa 33 7 3) (.step (QS 1 33 32) .done))))))))))))))) [1,2,3,4])) (qr [] [1,2,3,4])) (qr [Qm 21 4,Qu 22 .add 21 1,Qm 4 22] [1,2,3,4]))))) (qr [] [2,3]))) (qR [Ql 34 8 3,QS 8 2 34] [2] .ret)))
theorem c54:FB 54 [2000001]=some (r54,s54):=by kernel_rfl
def r78:RL:=[(2,none)]
def s78:SCode:=qR [Qb 1 8 0,Qi 2 0] [1] (qR [Qi 3 1] [1,3] (qs (qR [Qi 4 0] [1,3,4] (qs (.block 0 (.loop (qs (qR [Qm 5 4,Qa 6 7 1,Qo 7 6,Qn 8 7,Qv 9 .lss 5 8] [1,3,4,9] (qX 9)) (qs (qs (.block 1 (qr [Qm 12 3,Qa 13 7 1,Qo 14 13,Qm 15 4,Qx 16 8 14 15,Ql 17 8 16,Q1 18 78 17,Qv 19 .add 12 18,Qm 3 19] [1,3,4])) (qr [] [1,3,4])) (qr [Qm 10 4,Qu 11 .add 10 1,Qm 4 11] [1,3,4]))))) (qr [] [3]))) (qR [Qm 20 3,Qm 2 20] [2] .ret)))
theorem c78:FB 78 [2000001]=some (r78,s78):=by kernel_rfl
def r81:RL:=[(2,none)]
def s81:SCode:=qR [Qb 1 8 0,Qi 2 0] [1] (qR [Qi 3 0] [1,3] (qs (qR [Qi 4 0] [1,3,4] (qs (.block 0 (.loop (qs (qR [Qm 5 4,Qa 6 7 1,Qo 7 6,Qn 8 7,Qv 9 .lss 5 8] [1,3,4,9] (qX 9)) (qs (qs (.block 1 (qr [Qm 12 3,Qa 13 7 1,Qo 14 13,Qm 15 4,Qx 16 8 14 15,Ql 17 8 16,Q1 18 81 17,qa 19 (.bin .add (qi 1) (.t 18)),qa 20 (.raw (.call (.mk (.builtin .max) #[.tmp 12,.tmp 19] #[3,3]))),Qm 3 20] [1,3,4])) (qr [] [1,3,4])) (qr [Qm 10 4,Qu 11 .add 10 1,Qm 4 11] [1,3,4]))))) (qr [] [3]))) (qR [Qm 21 3,Qm 2 21] [2] .ret)))
theorem c81:FB 81 [2000001]=some (r81,s81):=by kernel_rfl
def r84:RL:=[(2,none)]
def s84:SCode:=qR [Qz 2] [0] (qR [qa 5 (.buildS 80 4 0 [] []),Qm 3 5] [0,3] (qs (qR [Qi 4 0] [0,3,4] (qs (.block 0 (.loop (qs (qR [Qm 6 4,Qm 7 0,Qn 8 7,Qv 9 .lss 6 8] [0,3,4,9] (qX 9)) (qs (qs (.block 1 (qr [Qm 12 3,Qm 13 0,Qm 14 4,Qx 15 4 13 14,Qa 16 0 15,Qo 17 16,qa 18 (.build [.str [],.int .i64 0,.int .i64 0,.int .i64 0] [(0,(1,.t 17))]),qa 19 (.buildS 80 4 1 [.str [],.int .i64 0,.int .i64 0,.int .i64 0] [(0,.t 18)]),Qw 20 80 4 40 12 19,Qm 3 20] [0,3,4])) (qr [] [0,3,4])) (qr [Qm 10 4,Qu 11 .add 10 1,Qm 4 11] [0,3,4]))))) (qr [] [3]))) (qR [Qm 21 3,Qm 2 21] [2] .ret)))
theorem c84:FB 84 []=some (r84,s84):=by kernel_rfl
def r117:RL:=[(2,none)]
def s117:SCode:=qR [Qf 2] [0] (qR [Qm 7 0,Q1 8 162 7,Qm 6 8,Qe 9 0 6,Qe 10 1 6,Qm 3 9,Qm 4 10] [3,4] (qR [qa 5 (.mov (.f 163))] [3,4,5] (qR [Qm 11 3,QN 12 11,Qu 13 .geq 12 1,Qm 14 13,Bm 15 14 3,qb 16 14 (.lenS (.t 15)),qb 17 14 (.bin .leq (.t 16) (qi 4)),Qp 18 14 17,Qm 19 18,Bm 20 19 3,qb 21 19 (.index (.t 20) (qi 0)),qb 22 19 (.bin .neq (.t 21) (.c (.int .u8 48))),Qp 23 19 22,Qm 24 23,Bm 25 24 4,qb 26 24 (.lenS (.t 25)),qb 27 24 (.bin .leq (.t 26) (qi 3)),Qp 28 24 27,Qm 29 28,Bm 30 29 4,Bm 31 29 5,qb 32 29 (.call (.f 164) [.t 30,.t 31]),qb 33 29 (.not (.t 32)),Qp 34 29 33,Qm 2 34] [2] .ret)))
theorem c117:FB 117 []=some (r117,s117):=by kernel_rfl
def r135:RL:=[(4,none)]
def s135:SCode:=qR [Qf 4] [0,1] (qs (qR [Qm 5 0] [1,5] (qs (.block 0 (qR [Qu 7 .eql 5 0,Qm 6 7] [1,5,6] (.cond (.t 6) (qR [Qm 8 1,Qu 9 .eql 8 1,Qm 10 9,Ym 11 10 1,qc 12 10 (.bin .eql (.t 11) (qi 2)),Qq 13 10 12,Qm 4 13] [4] .ret) (qR [Qu 15 .eql 5 1,Qm 14 15] [1,5,14] (.cond (.t 14) (qR [Qm 16 1,Qu 17 .eql 16 2,Qm 4 17] [4] .ret) (qR [Qu 19 .eql 5 2,Qm 18 19] [1,5,18] (.cond (.t 18) (qR [Qm 20 1,Qu 21 .eql 20 3,Qm 22 21,Ym 23 22 1,qc 24 22 (.bin .eql (.t 23) (qi 4)),Qq 25 22 24,Qm 26 25,Ym 27 26 1,qc 28 26 (.bin .eql (.t 27) (qi 7)),Qq 29 26 28,Qm 4 29] [4] .ret) (qR [Qu 31 .eql 5 3,Qm 30 31] [1,5,30] (.cond (.t 30) (qR [Qm 32 1,Qu 33 .eql 32 3,Qm 34 33,Ym 35 34 1,qc 36 34 (.bin .eql (.t 35) (qi 4)),Qq 37 34 36,Qm 38 37,Ym 39 38 1,qc 40 38 (.bin .eql (.t 39) (qi 7)),Qq 41 38 40,Qm 4 41] [4] .ret) (qR [Qu 43 .eql 5 4,Qm 42 43] [1,5,42] (.cond (.t 42) (qR [Qm 44 1,Qu 45 .eql 44 5,Qm 4 45] [4] .ret) (qR [Qu 47 .eql 5 5,Qm 46 47] [1,46] (.cond (.t 46) (qR [Qm 48 1,Qu 49 .eql 48 6,Qm 4 49] [4] .ret) .skip))))))))))))) (qr [] []))) (qR [Qf 4] [4] .ret))
theorem c135:FB 135 []=some (r135,s135):=by kernel_rfl
def r138:RL:=[(4,none)]
def s138:SCode:=qR [Qf 4] [0,1] (qs (qR [Qm 5 0] [1,5] (qs (.block 0 (qR [Qu 7 .eql 5 0,Qm 6 7] [1,5,6] (.cond (.t 6) (qR [Qm 8 1,Qu 9 .eql 8 1,Qm 10 9,Ym 11 10 1,qc 12 10 (.bin .eql (.t 11) (qi 2)),Qq 13 10 12,Qm 4 13] [4] .ret) (qR [Qu 15 .eql 5 1,Qm 14 15] [1,5,14] (.cond (.t 14) (qR [Qm 16 1,Qu 17 .eql 16 2,Qm 4 17] [4] .ret) (qs (qR [Qu 19 .eql 5 2,Qm 18 19] [1,5,18] (.cond (.t 18) .skip (qr [Qu 20 .eql 5 3,Qm 18 20] [1,5,18]))) (.cond (.t 18) (qR [Qm 21 1,Qu 22 .eql 21 3,Qm 23 22,Ym 24 23 1,qc 25 23 (.bin .eql (.t 24) (qi 4)),Qq 26 23 25,Qm 27 26,Ym 28 27 1,qc 29 27 (.bin .eql (.t 28) (qi 7)),Qq 30 27 29,Qm 4 30] [4] .ret) (qR [Qu 32 .eql 5 4,Qm 31 32] [1,5,31] (.cond (.t 31) (qR [Qm 33 1,Qu 34 .eql 33 5,Qm 4 34] [4] .ret) (qR [Qu 36 .eql 5 5,Qm 35 36] [1,35] (.cond (.t 35) (qR [Qm 37 1,Qu 38 .eql 37 6,Qm 4 38] [4] .ret) .skip))))))))))) (qr [] []))) (qR [Qf 4] [4] .ret))
theorem c138:FB 138 []=some (r138,s138):=by kernel_rfl
def r162:RL:=[(2,none),(3,none)]
def s162:SCode:=qR [qa 2 (.mov (.c (.str []))),qa 3 (.mov (.c (.str [])))] [0] (qR [Qm 5 0,qa 6 (.call (.f 205) [.t 5,.f 206]),Qm 4 6] [0,4] (qs (qR [Qm 7 4,Qu 8 .lss 7 0] [0,4,8] (.cond (.t 8) (qR [Qm 9 0,Qm 2 9,qa 3 (.mov (.c (.str [])))] [2,3] .ret) .skip)) (qs (.drawL [Qm 10 0,Qm 11 4,qa 12 (.sliceS (.t 10) none (some (.t 11))),Qm 13 0,Qm 14 4,qa 15 (.sliceS (.t 13) (some (.t 14)) none),Qm 2 12,Qm 3 15] [2,3]) .ret)))
theorem c162:FB 162 []=some (r162,s162):=by kernel_rfl
def r180:RL:=[(2,none)]
def s180:SCode:=qR [qa 2 (.mov (.c (.str [])))] [0] (qR [qa 3 (.mov (.c (.str [])))] [0,3] (qs (qR [Qi 4 0] [0,3,4] (qs (.block 0 (.loop (qs (qR [Qm 6 4,Qm 7 0,Qn 8 7,Qv 9 .lss 6 8] [0,3,4,9] (qX 9)) (qs (qs (.block 1 (qR [Qm 12 0,Qm 13 4,Qx 14 4 12 13,Qa 15 0 14,Qo 16 15,Qm 5 16] [0,3,4,5] (qs (qR [Qm 17 5,qa 18 (.index (.t 17) (qi 0)),qa 19 (.bin .eql (.t 18) (.c (.int .u8 124))),Qm 20 19,Ym 21 20 5,qc 22 20 (.index (.t 21) (qi 0)),qc 23 20 (.bin .eql (.t 22) (.c (.int .u8 92))),Qq 24 20 23] [0,3,4,5,24] (.cond (.t 24) (qr [Qm 25 5,qa 26 (.bin .add (.c (.str [92])) (.t 25)),Qm 5 26] [0,3,4,5]) .skip)) (qr [Qm 27 3,qa 28 (.bin .add (.t 27) (.c (.str [32]))),Qm 29 5,Qv 30 .add 28 29,Qm 3 30] [0,3,4])))) (qr [] [0,3,4])) (qr [Qm 10 4,Qu 11 .add 10 1,Qm 4 11] [0,3,4]))))) (qr [] [3]))) (qR [Qm 31 3,Qm 2 31] [2] .ret)))
theorem c180:FB 180 []=some (r180,s180):=by kernel_rfl
def r222:RL:=[(2,none)]
def s222:SCode:=qR [Qf 2] [0] (qs (qR [Qi 3 0] [0,3] (qs (.block 0 (.loop (qs (qR [Qm 4 3,Qm 5 0,QN 6 5,Qv 7 .lss 4 6] [0,3,7] (qX 7)) (qs (qs (.block 1 (qR [Qm 10 0,Qm 11 3,QI 12 10 11,qa 13 (.bin .lss (.t 12) (.c (.int .u8 33))),Qm 14 13,Ym 15 14 0,Ym 16 14 3,qc 17 14 (.index (.t 15) (.t 16)),qc 18 14 (.bin .gtr (.t 17) (.c (.int .u8 126))),Qq 19 14 18] [0,3,19] (.cond (.t 19) (qR [Qf 2] [2] .ret) .skip))) (qr [] [0,3])) (qr [Qm 8 3,Qu 9 .add 8 1,Qm 3 9] [0,3]))))) (qr [] [0]))) (qR [Qm 20 0,QN 21 20,Qu 22 .geq 21 1,Qm 23 22,Bm 24 23 0,qb 25 23 (.lenS (.t 24)),qb 26 23 (.bin .leq (.t 25) (qi 24)),Qp 27 23 26,Qm 2 27] [2] .ret))
theorem c222:FB 222 []=some (r222,s222):=by kernel_rfl
end Go.Av
