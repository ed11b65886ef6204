/-
  What XLawClean needs besides.
-/
import Derived.Lib.Builder
import Derived.Test.YtjolkfjccojnnaaGreatDoorProg
import Derived.Shelf.Strings.Builder1
import Derived.Shelf.Strings.Builder2
import Derived.Shelf.Strings.OnBuilder
import Derived.Shelf.Strings.Trim
import Derived.Shelf.Small.Utf8
import Derived.Shelf.Small.Strs
import Derived.Shelf.Strings.BuilderF
import Derived.Shelf.Utf8.RuneCount
import Derived.Shelf.Strconv.Itoa0
import Derived.Shelf.Strconv.Itoa1
import Derived.Shelf.LaysM
import Derived.Shelf.Strconv.Itoa2
import Derived.Shelf.Strconv.Itoa3
import Derived.Shelf.Strings.Search1
import Derived.Shelf.Strings.Search2
import Derived.Shelf.Strings.Search3
import Derived.Shelf.Strings.Count
import Derived.Shelf.Strings.Shaped
import Derived.Shelf.GgClosure.StringsIndexFunc
import Derived.Ground.GgwProg
import Derived.Shelf.GgClosure.StringsIndexFuncTop
import Derived.Shelf.GgClosure.StringsRunes
import Derived.Shelf.Strings.Prefix
import Derived.Shelf.Strings.Split
import Derived.Shelf.Strings.SplitShaped
import Derived.Shelf.Unicode.Decode
import Derived.Shelf.Strings.Runes
import Derived.Shelf.Strings.RuneCount
import Derived.Shelf.Strings.AsciiSet
import Derived.Shelf.Strings.Explode
import Derived.Shelf.Bits.Mul64
import Derived.Shelf.Strings.Repeat
import Derived.Shelf.Unicode.DecodeSlow
import Derived.Shelf.Unicode.DecodeAny
import Derived.Shelf.Unicode.DecodeLast
import Derived.Shelf.Strings.FuncGrows
import Derived.Ground.Names2Prog
import Derived.Shelf.Slices.Clone
import Derived.Ground.SlgnProg
import Derived.Shelf.SlicesE.Clone
import Derived.JoinedCond
import Derived.Deep.DeepWitnessRowRef
import Derived.Lib.Split
import Derived.Lib.SplitLaws
import Derived.Lib.AppendIntMem
import Derived.Lib.ItoaLen
import Derived.Shelf.Vars
import Derived.Test.YtjolkfjccojnnaaGreatDoorXAv1toXAv2
import Derived.Test.YtjolkfjccojnnaaGreatDoorXAv3
import Derived.Test.YtjolkfjccojnnaaGreatDoorXAv4
import Derived.Test.YtjolkfjccojnnaaGreatDoorXAv5toXAv7
import Derived.Test.YtjolkfjccojnnaaGreatDoorXAv8toXAv9
import Derived.Test.YtjolkfjccojnnaaGreatDoorXAv10toXAv11
import Derived.Test.YtjolkfjccojnnaaGreatDoorXAv12
import Derived.Test.YtjolkfjccojnnaaGreatDoorXAv13
import Derived.Test.YtjolkfjccojnnaaGreatDoorXAv14toXAv15
import Derived.Test.YtjolkfjccojnnaaGreatDoorXAv15b
import Derived.Test.YtjolkfjccojnnaaGreatDoorXAv16toXAv20
import Derived.Test.YtjolkfjccojnnaaGreatDoorXAv21toXAv25
import Derived.Test.YtjolkfjccojnnaaGreatDoorXAv26toXOpenG
import Derived.Test.YtjolkfjccojnnaaGreatDoorXGlobtoXCS
import Derived.Test.YtjolkfjccojnnaaGreatDoorXC1
import Derived.Test.YtjolkfjccojnnaaGreatDoorXC2
import Derived.Test.YtjolkfjccojnnaaGreatDoorXC3
import Derived.Test.YtjolkfjccojnnaaGreatDoorXL2toXL6
import Derived.Test.YtjolkfjccojnnaaGreatDoorXL7toXL8
import Derived.Test.YtjolkfjccojnnaaGreatDoorShelf
import Derived.Test.YtjolkfjccojnnaaGreatDoorXL9toXL12
import Derived.Test.YtjolkfjccojnnaaGreatDoorXL13toXL15
import Derived.Test.YtjolkfjccojnnaaGreatDoorXL16toXFrN
import Derived.Test.YtjolkfjccojnnaaGreatDoorXL18toXL20
import Derived.Test.YtjolkfjccojnnaaGreatDoorXL21toXOpI
import Derived.Test.YtjolkfjccojnnaaGreatDoorXC4
import Derived.Test.YtjolkfjccojnnaaGreatDoorXC5
import Derived.Test.YtjolkfjccojnnaaGreatDoorXC6toXE2
import Derived.Test.YtjolkfjccojnnaaGreatDoorXE3toXL25
import Derived.Test.YtjolkfjccojnnaaGreatDoorXE8toXE10
import Derived.Test.YtjolkfjccojnnaaGreatDoorXE11toXL26
import Derived.Test.YtjolkfjccojnnaaGreatDoorXL27toXL29
import Derived.Test.YtjolkfjccojnnaaGreatDoorXL28toXL51
import Derived.Test.YtjolkfjccojnnaaGreatDoorXL30toXL33
import Derived.Test.YtjolkfjccojnnaaGreatDoorXL34toXL53
import Derived.Test.YtjolkfjccojnnaaGreatDoorXL38toXM9
import Derived.Test.YtjolkfjccojnnaaGreatDoorXE14toXM13
import Derived.Test.YtjolkfjccojnnaaGreatDoorXM14toXAv31
import Derived.Test.YtjolkfjccojnnaaGreatDoorXAv32toXAv33
import Derived.Test.YtjolkfjccojnnaaGreatDoorXAv34toXAv36
import Derived.Test.YtjolkfjccojnnaaGreatDoorXM15toXM17
import Derived.Test.YtjolkfjccojnnaaGreatDoorXM18toXM16
import Derived.Test.YtjolkfjccojnnaaGreatDoorXM21toXM22
import Derived.Test.YtjolkfjccojnnaaGreatDoorXM23toXM24
import Derived.Test.YtjolkfjccojnnaaGreatDoorXM25toXM19
import Derived.Test.YtjolkfjccojnnaaGreatDoorXM20toXM29
import Derived.Test.YtjolkfjccojnnaaGreatDoorXM30toXP6
import Derived.Test.YtjolkfjccojnnaaGreatDoorXQ2
section
namespace Go.Av
open Go Go.RowKit

theorem aP.rfl' (x : AV) : aP x x := Or.inl rfl
end Go.Av
end

section
namespace Go.Av
open Go Go.RowKit

section
variable {G : Glob} {P : Program}

theorem vs_one {τ : Store} {w : World} {x : AV} {vs : Array Value} (h : RepL τ w [x] vs.toList) : ∃ u, vs = #[u] ∧ Rep τ w x u := by
  simp only [RepL] at h
  obtain ⟨u, us, h1, h2, h5⟩ := h
  subst h5
  exact ⟨u, by apply Array.ext'; simpa using h1, h2⟩
end
end Go.Av
end

section
namespace Go.Av
open Go

def r57 : RL := [(3, none)]
def s57 : SCode := qs (qr [qa 2 (.boxR 25 (.t 0)), qa 3 (.mov qf)] [1, 2]) (qs (qr [qa 4 (lm 25 2), qa 5 (lm 25 1), qa 6 (.call (.f 58) [.t 4, .t 5]), qa 3 (mt 6)] [3]) .ret)
theorem c57 : fnAt Proofs.Tryz.prog 57 [2000002] = some (r57, s57) := by kernel_rfl

def r96 : RL := [(2, none)]
def s96 : SCode := qs (qr [qa 1 (.boxR 25 (.t 0)), qa 2 (.mov qf)] [1]) (qs (qr [qa 3 (lm 25 1), qa 4 (.call (.f 35) [.t 3]), qa 5 (.not (.t 4)), qa 2 (mt 5)] [2]) .ret)
theorem c96 : fnAt Proofs.Tryz.prog 96 [2000001] = some (r96, s96) := by kernel_rfl

def r99 : RL := [(2, none)]
def s99 : SCode := qs (qr [qa 1 (.boxR 3 (.t 0)), qa 2 (.mov (.c (.str [])))] [1]) (qs (qs (.block 0 (qs (qr [qa 4 (fa 0 1), qa 5 (lo 4), qa 6 (.bin .eql (.t 5) (qi 1)), qa 7 (mt 6), qb 8 7 (fa 1 1), qb 9 7 (lo 8), qb 10 7 (.call (.f 98) [.t 9]), qa 11 (.pick (.t 7) (.t 10) qf), qa 12 (mt 11), qb 13 12 (fa 2 1), qb 14 12 (lo 13), qb 15 12 (.bin .eql (.t 14) (.c (.str []))), qa 16 (.pick (.t 12) (.t 15) qf), qa 3 (mt 16)] [1, 3]) (.cond (.t 3) (qs (qr [qa 17 (fa 1 1), qa 18 (lo 17), qa 19 (.call (.f 163) [.t 18]), qa 20 (.bin .add (.c (.str [102, 114, 111, 109, 32, 100, 97, 121, 32])) (.t 19)), qa 2 (mt 20)] [2]) .ret) (qs (qr [qa 22 (lm 3 1), qa 23 (.build [.int .i64 0, .int .i64 0, .str []] [(0, (1, .c (.int .i64 2)))]), qa 24 (.eqs false [1, 1, 2] (.t 22) (.t 23)), qa 21 (mt 24)] [1, 21]) (.cond (.t 21) (qs (qr [qa 2 (.mov (.c (.str [98, 121, 32, 111, 114, 100, 101, 114])))] [2]) .ret) (qs (qr [qa 26 (fa 0 1), qa 27 (lo 26), qa 28 (.bin .eql (.t 27) (qi 3)), qa 29 (mt 28), qb 30 29 (fa 1 1), qb 31 29 (lo 30), qb 32 29 (.bin .eql (.t 31) (qi 0)), qa 33 (.pick (.t 29) (.t 32) qf), qa 34 (mt 33), qb 35 34 (fa 2 1), qb 36 34 (lo 35), qb 37 34 (.call (.f 164) [.t 36]), qa 38 (.pick (.t 34) (.t 37) qf), qa 25 (mt 38)] [1, 25]) (.cond (.t 25) (qs (qr [qa 39 (fa 2 1), qa 40 (lo 39), qa 41 (.bin .add (.c (.str [111, 110, 32, 101, 118, 101, 110, 116, 32])) (.t 40)), qa 2 (mt 41)] [2]) .ret) .skip))))))) (qr [] [])) (qs (qr [qa 2 (.mov (.c (.str [])))] [2]) .ret))
theorem c99 : fnAt Proofs.Tryz.prog 99 [2000001] = some (r99, s99) := by kernel_rfl

def r162 : RL := [(2, none), (3, none)]
def s162 : SCode := qs (qr [qa 2 (.mov (.c .nil)), qa 3 (.mov (qi 0))] [0]) (qs (qs (qr [qa 5 (mt 0), qa 6 (.bin .eql (.t 5) (.c (.str [])))] [0, 6]) (.cond (.t 6) (qs (qr [qa 2 (.mov (.c .nil)), qa 3 (.mov (qi 0))] [2, 3]) .ret) .skip)) (qs (qr [qa 7 (mt 0), qa 8 (.call (.f 211) [.t 7, .c (.str [32])]), qa 4 (mt 8)] [4]) (qs (qs (.block 0 (qs (qr [qa 10 (mt 4), qa 11 (.call (.f 212) [.t 10, .f 213]), qa 9 (mt 11)] [4, 9]) (.cond (.t 9) (qs (qr [qa 2 (.mov (.c .nil)), qa 3 (.mov (qi 2))] [2, 3]) .ret) (qs (qr [qa 13 (mt 4), qa 14 (.len (.t 13)), qa 15 (.bin .gtr (.t 14) (qi 256)), qa 12 (mt 15)] [4, 12]) (.cond (.t 12) (qs (qr [qa 2 (.mov (.c .nil)), qa 3 (.mov (qi 6))] [2, 3]) .ret) .skip))))) (qr [] [4])) (qs (qr [qa 16 (mt 4), qa 2 (mt 16), qa 3 (.mov (qi 0))] [2, 3]) .ret))))
theorem c162 : fnAt Proofs.Tryz.prog 162 [] = some (r162, s162) := by kernel_rfl

def r213 : RL := [(2, none)]
def s213 : SCode := qs (qr [qa 2 (.mov qf)] [0]) (qs (qr [qa 3 (mt 0), qa 4 (.call (.f 214) [.t 3]), qa 5 (.not (.t 4)), qa 2 (mt 5)] [2]) .ret)
theorem c213 : fnAt Proofs.Tryz.prog 213 [] = some (r213, s213) := by kernel_rfl

def r216 : RL := [(2, none)]
def s216 : SCode := qs (qr [qa 2 (.mov qf)] [0]) (qs (qr [qa 3 (mt 0), qa 4 (.bin .geq (.t 3) (.c (.int .i32 97))), qa 5 (mt 4), qb 6 5 (mt 0), qb 7 5 (.bin .leq (.t 6) (.c (.int .i32 122))), qa 8 (.pick (.t 5) (.t 7) qf), qa 9 (mt 8), qc 10 9 (mt 0), qc 11 9 (.bin .geq (.t 10) (.c (.int .i32 48))), qc 12 9 (mt 11), qb 13 12 (mt 0), qb 14 12 (.bin .leq (.t 13) (.c (.int .i32 57))), qc 15 9 (.pick (.t 12) (.t 14) qf), qa 16 (.pick (.t 9) qt (.t 15)), qa 17 (mt 16), qc 18 17 (mt 0), qc 19 17 (.bin .eql (.t 18) (.c (.int .i32 45))), qa 20 (.pick (.t 17) qt (.t 19)), qa 2 (mt 20)] [2]) .ret)
theorem c216 : fnAt Proofs.Tryz.prog 216 [] = some (r216, s216) := by kernel_rfl

end Go.Av
end

section
namespace Go.Av
open Go

def r40 : RL := [(2, none)]
def s40 : SCode := qs (qr [qa 1 (.boxR 7 (.t 0)), qa 2 (.mov qf)] [1]) (qs (qs (qr [qa 4 (fa 6 1), qa 5 (lo 4), qa 6 (.len (.t 5)), qa 7 (.bin .gtr (.t 6) (qi 40)), qa 8 (mt 7), qc 9 8 (fa 1 1), qc 10 8 (lo 9), qc 11 8 (.lenS (.t 10)), qc 12 8 (.bin .gtr (.t 11) (qi 300)), qa 13 (.pick (.t 8) qt (.t 12)), qa 14 (mt 13), qc 15 14 (fa 3 1), qc 16 14 (fa 2 15), qc 17 14 (lo 16), qc 18 14 (.lenS (.t 17)), qc 19 14 (.bin .gtr (.t 18) (qi 100)), qa 20 (.pick (.t 14) qt (.t 19))] [1, 20]) (.cond (.t 20) (qs (qr [qa 2 (.mov qf)] [2]) .ret) .skip)) (qs (qs (qr [qa 3 (.mov (qi 0))] [1, 3]) (qs (.block 0 (.loop (qs (qs (qr [qa 21 (mt 3), qa 22 (fa 6 1), qa 23 (lo 22), qa 24 (.len (.t 23)), qa 25 (.bin .lss (.t 21) (.t 24))] [1, 3, 25]) (.cond (.t 25) .skip (.exit 0))) (qs (qs (.block 1 (qs (qr [qa 28 (fa 6 1), qa 29 (lo 28), qa 30 (mt 3), qa 31 (.indexA 25 (.t 29) (.t 30)), qa 32 (lm 25 31), qa 33 (.call (.f 7) [.t 32]), qa 34 (.not (.t 33))] [1, 3, 34]) (.cond (.t 34) (qs (qr [qa 2 (.mov qf)] [2]) .ret) .skip))) (qr [] [1, 3])) (qr [qa 26 (mt 3), qa 27 (.bin .add (.t 26) (qi 1)), qa 3 (mt 27)] [1, 3]))))) (qr [] []))) (qs (qr [qa 2 (.mov qt)] [2]) .ret)))
theorem c40 : fnAt Proofs.Tryz.prog 40 [2000001] = some (r40, s40) := by kernel_rfl

def r97 : RL := [(2, none)]
def s97 : SCode := qs (qr [qa 2 (.mov qf)] [0]) (qs (qr [qa 6 (mt 0), qa 7 (.call (.f 162) [.t 6]), qa 5 (mt 7), qa 8 (.extract 0 (.t 5)), qa 9 (.extract 1 (.t 5)), qa 3 (mt 8), qa 4 (mt 9)] [3, 4]) (qs (qr [qa 10 (mt 4), qa 11 (.bin .eql (.t 10) (qi 0)), qa 12 (mt 11), qb 13 12 (mt 3), qb 14 12 (.len (.t 13)), qb 15 12 (.bin .gtr (.t 14) (qi 0)), qa 16 (.pick (.t 12) (.t 15) qf), qa 2 (mt 16)] [2]) .ret))
theorem c97 : fnAt Proofs.Tryz.prog 97 [] = some (r97, s97) := by kernel_rfl

def r100 : RL := [(4, none)]
def s100 : SCode := qs (qr [qa 4 (.mov (qi 0))] [0, 1]) (qs (qs (qr [qa 6 (mt 0), qa 7 (.len (.t 6)), qa 8 (.mov (qi 0))] [0, 1, 7, 8]) (qs (.block 0 (.loop (qs (qr [qa 9 (.bin .lss (.t 8) (.t 7))] [0, 1, 7, 8, 9]) (qs (.cond (.t 9) .skip (.exit 0)) (qs (qs (.block 1 (qs (qr [qa 10 (mt 8), qa 5 (mt 10)] [0, 1, 5, 7, 8]) (qs (qr [qa 11 (mt 1), qa 12 (mt 0), qa 13 (mt 5), qa 14 (.indexA 25 (.t 12) (.t 13)), qa 15 (lm 25 14), qa 16 (.call (.t 11) [.t 15])] [0, 1, 5, 7, 8, 16]) (.cond (.t 16) (qs (qr [qa 17 (mt 5), qa 4 (mt 17)] [4]) .ret) .skip)))) (qr [] [0, 1, 7, 8])) (qr [qa 18 (.bin .add (.t 8) (qi 1)), qa 8 (mt 18)] [0, 1, 7, 8])))))) (qr [] []))) (qs (qr [qa 4 (.mov (qi (-1)))] [4]) .ret))
theorem c100 : fnAt Proofs.Tryz.prog 100 [] = some (r100, s100) := by kernel_rfl

end Go.Av
end

section
namespace Go.Av
open Go

def r56 : RL := [(4, none)]
def s56 : SCode := qs (qr [qa 4 (.mov qf)] [0, 1]) (qs (qr [qa 5 (mt 0), qa 6 (mt 1), qa 7 (.call (.f 100) [.t 5, .t 6]), qa 8 (.bin .geq (.t 7) (qi 0)), qa 4 (mt 8)] [4]) .ret)
theorem c56 : fnAt Proofs.Tryz.prog 56 [] = some (r56, s56) := by kernel_rfl

def r59 : RL := [(4, some (true, 6)), (5, none)]
def s59 : SCode := qs (qr [qa 2 (.boxR 7 (.t 0)), qa 3 (.boxR 25 (.t 1)), qa 4 (.alloc 50 [.int .i64 0, .int .i64 0, .int .i64 0, .int .i64 0, .int .i64 0, .str []]), qa 5 (.mov qf)] [2, 3, 4]) (qs (qs (.block 0 (qs (qr [qa 7 (fa 0 3), qa 8 (lo 7), qa 9 (.call (.f 104) [.t 8]), qa 10 (.not (.t 9)), qa 11 (mt 10), qc 12 11 (fa 20 3), qc 13 11 (lo 12), qc 14 11 (fa 0 2), qc 15 11 (lo 14), qc 16 11 (.bin .neq (.t 13) (.t 15)), qa 17 (.pick (.t 11) qt (.t 16)), qa 6 (mt 17)] [2, 3, 4, 6]) (.cond (.t 6) (qs (qr [qa 18 (.build [.int .i64 0, .int .i64 0, .int .i64 0, .int .i64 0, .int .i64 0, .str []] []), ⟨none, none, .store 6 (.t 4) (.t 18)⟩, qa 5 (.mov qf)] [4, 5]) .ret) (qs (qr [qa 20 (fa 21 3), qa 21 (lo 20), qa 22 (fa 6 2), qa 23 (lo 22), qa 24 (.len (.t 23)), qa 25 (.bin .geq (.t 21) (.t 24)), qa 19 (mt 25)] [2, 3, 4, 19]) (.cond (.t 19) (qs (qr [qa 26 (.build [.int .i64 0, .int .i64 0, .int .i64 0, .int .i64 0, .int .i64 0, .str []] [(4, (1, .c (.int .i64 4))), (5, (1, .c (.str [110, 111, 32, 115, 117, 99, 104, 32, 105, 116, 101, 109])))]), ⟨none, none, .store 6 (.t 4) (.t 26)⟩, qa 5 (.mov qt)] [4, 5]) .ret) (qs (qr [qa 28 (fa 21 3), qa 29 (lo 28), qa 30 (.bin .geq (.t 29) (qi 0)), qa 31 (mt 30), qb 32 31 (fa 6 2), qb 33 31 (lo 32), qb 34 31 (fa 21 3), qb 35 31 (lo 34), qb 36 31 (.indexA 25 (.t 33) (.t 35)), qb 37 31 (fa 0 36), qb 38 31 (lo 37), qb 39 31 (.call (.f 68) [.t 38]), qb 40 31 (.not (.t 39)), qa 41 (.pick (.t 31) (.t 40) qf), qa 27 (mt 41)] [4, 27]) (.cond (.t 27) (qs (qr [qa 42 (.build [.int .i64 0, .int .i64 0, .int .i64 0, .int .i64 0, .int .i64 0, .str []] [(4, (1, .c (.int .i64 9))), (5, (1, .c (.str [110, 111, 116, 32, 97, 110, 32, 97, 109, 101, 110, 100, 109, 101, 110, 116])))]), ⟨none, none, .store 6 (.t 4) (.t 42)⟩, qa 5 (.mov qt)] [4, 5]) .ret) .skip))))))) (qr [] [4])) (qs (qr [qa 43 (.build [.int .i64 0, .int .i64 0, .int .i64 0, .int .i64 0, .int .i64 0, .str []] []), ⟨none, none, .store 6 (.t 4) (.t 43)⟩, qa 5 (.mov qf)] [4, 5]) .ret))
theorem c59 : fnAt Proofs.Tryz.prog 59 [2000002, 2000003] = some (r59, s59) := by kernel_rfl

def r98 : RL := [(2, none)]
def s98 : SCode := qs (qr [qa 2 (.mov qf)] [0]) (qs (qr [qa 3 (mt 0), qa 4 (.bin .geq (.t 3) (qi 0)), qa 5 (mt 4), qb 6 5 (mt 0), qb 7 5 (.bin .leq (.t 6) (qi 1048576)), qa 8 (.pick (.t 5) (.t 7) qf), qa 2 (mt 8)] [2]) .ret)
theorem c98 : fnAt Proofs.Tryz.prog 98 [] = some (r98, s98) := by kernel_rfl

def r104 : RL := [(2, none)]
def s104 : SCode := qs (qr [qa 2 (.mov qf)] [0]) (qs (qr [qa 3 (mt 0), qa 4 (.bin .eql (.t 3) (qi 7)), qa 5 (mt 4), qc 6 5 (mt 0), qc 7 5 (.bin .eql (.t 6) (qi 8)), qa 8 (.pick (.t 5) qt (.t 7)), qa 9 (mt 8), qc 10 9 (mt 0), qc 11 9 (.bin .eql (.t 10) (qi 9)), qa 12 (.pick (.t 9) qt (.t 11)), qa 13 (mt 12), qc 14 13 (mt 0), qc 15 13 (.bin .eql (.t 14) (qi 11)), qa 16 (.pick (.t 13) qt (.t 15)), qa 2 (mt 16)] [2]) .ret)
theorem c104 : fnAt Proofs.Tryz.prog 104 [] = some (r104, s104) := by kernel_rfl

def r164 : RL := [(2, none)]
def s164 : SCode := qs (qr [qa 2 (.mov qf)] [0]) (qs (qr [qa 3 (.alloc 180 [.sc .nilFunc]), ⟨none, none, .store 1 (.t 3) (.f 216)⟩] [0, 3]) (qs (qr [qa 4 (mt 0), qa 5 (.lenS (.t 4)), qa 6 (.bin .geq (.t 5) (qi 1)), qa 7 (mt 6), qb 8 7 (mt 0), qb 9 7 (.lenS (.t 8)), qb 10 7 (.bin .leq (.t 9) (qi 16)), qa 11 (.pick (.t 7) (.t 10) qf), qa 12 (mt 11), qb 13 12 (mt 0), qb 14 12 (.index (.t 13) (qi 0)), qb 15 12 (.bin .geq (.t 14) (.c (.int .u8 97))), qa 16 (.pick (.t 12) (.t 15) qf), qa 17 (mt 16), qb 18 17 (mt 0), qb 19 17 (.index (.t 18) (qi 0)), qb 20 17 (.bin .leq (.t 19) (.c (.int .u8 122))), qa 21 (.pick (.t 17) (.t 20) qf), qa 22 (mt 21), qb 23 22 (mt 0), qb 24 22 (.mkfun (.func 218) [] [.t 3]), qb 25 22 (.call (.f 217) [.t 23, .t 24]), qb 26 22 (.bin .lss (.t 25) (qi 0)), qa 27 (.pick (.t 22) (.t 26) qf), qa 2 (mt 27)] [2]) .ret))
theorem c164 : fnAt Proofs.Tryz.prog 164 [] = some (r164, s164) := by kernel_rfl

def r218 : RL := [(3, none)]
def s218 : SCode := qs (qr [qa 3 (.mov qf)] [0, 1]) (qs (qr [qa 4 (lo 1), qa 5 (mt 0), qa 6 (.call (.t 4) [.t 5]), qa 7 (.not (.t 6)), qa 3 (mt 7)] [3]) .ret)
theorem c218 : fnAt Proofs.Tryz.prog 218 [] = some (r218, s218) := by kernel_rfl

end Go.Av
end

section
namespace Go.Av
open Go Go.RowKit Go.Proofs
set_option linter.unusedSimpArgs false
set_option linter.unusedVariables false

section
variable (G : Glob)

theorem f104 (k : Int) : Pure G Tryz.prog 104 [.int .i64 k] (.bool (decide (k = 7) || decide (k = 8) || decide (k = 9) || decide (k = 11))) := by
  refine Pure.w c104 fun R hR => ?_
  unfold s104 r104
  (repeat' (first | (with_reducible (refine ag (fun h => ?_) (fun h => ?_)) <;> (try simp only [Da, Db, Dc, Dw, De, Df, Dg, Dh] at h)) | simp only [EVz, seval, ↓reduceIte, EV6, EV7] | fail))
  (all_goals (((refine RET.eq hR ?_; (refine congrArg AV.bool (Bool.eq_iff_iff.2 ?_); simp only [EVB] at *; omega)))))
theorem f98 (k : Int) : Pure G Tryz.prog 98 [.int .i64 k] (.bool (inR k 0 1048576)) := by
  refine Pure.w c98 fun R hR => ?_
  unfold s98 r98
  (repeat' (first | (with_reducible (refine ag (fun h => ?_) (fun h => ?_)) <;> (try simp only [Da, Db, Dc, Dw, De, Df, Dg, Dh] at h)) | simp only [EVz, seval, ↓reduceIte, EV6, EV7] | fail))
  (all_goals (((refine RET.eq hR ?_; (refine congrArg AV.bool (Bool.eq_iff_iff.2 ?_); simp only [inR, EVB] at *; omega)))))
end
end Go.Av
end

section
namespace Go.Proofs
open Go.Shelf
def Tryz.laysM171_ren : Go.Shelf.Ren := ⟨fun | 171 => 163 | 243 => 215 | 246 => 242 | 283 => 269 | 284 => 270 | 285 => 271 | 286 => 272 | 129 => 288 | 317 => 287 | 318 => 289 | 319 => 290 | 320 => 291 | 337 => 299 | 338 => 300 | n => n, fun | 3 => 3 | 9 => 9 | 2 => 2 | 4 => 4 | 171 => 237 | 0 => 0 | 53 => 238 | 37 => 215 | 5 => 5 | 173 => 241 | 212 => 258 | 51 => 259 | 20 => 20 | 213 => 260 | 46 => 252 | 232 => 276 | 233 => 277 | n => n, fun | 17 => 5 | 18 => 8 | 19 => 9 | n => n⟩
theorem Tryz.laysM171 : Go.Proofs.LaysM.n171 Tryz.prog Tryz.laysM171_ren := {
  mixed := by kernel_rfl
  f129 := Tryz.func288.trans (congrArg some (by kernel_rfl))
  f171 := Tryz.func163.trans (congrArg some (by kernel_rfl))
  f243 := Tryz.func215.trans (congrArg some (by kernel_rfl))
  f246 := Tryz.func242.trans (congrArg some (by kernel_rfl))
  f283 := Tryz.func269.trans (congrArg some (by kernel_rfl))
  f284 := Tryz.func270.trans (congrArg some (by kernel_rfl))
  f285 := Tryz.func271.trans (congrArg some (by kernel_rfl))
  f286 := Tryz.func272.trans (congrArg some (by kernel_rfl))
  f317 := Tryz.func287.trans (congrArg some (by kernel_rfl))
  f318 := Tryz.func289.trans (congrArg some (by kernel_rfl))
  f319 := Tryz.func290.trans (congrArg some (by kernel_rfl))
  f320 := Tryz.func291.trans (congrArg some (by kernel_rfl))
  f337 := Tryz.func299.trans (congrArg some (by kernel_rfl))
  f338 := Tryz.func300.trans (congrArg some (by kernel_rfl))
  t0 := Tryz.underlying0
  a0 := Tryz.isAgg0
  z0 := Tryz.sizeOf0
  v0 := Tryz.zeroValue0
  t2 := Tryz.underlying2
  a2 := Tryz.isAgg2
  z2 := Tryz.sizeOf2
  v2 := Tryz.zeroValue2
  t3 := Tryz.underlying3
  a3 := Tryz.isAgg3
  z3 := Tryz.sizeOf3
  v3 := Tryz.zeroValue3
  t4 := Tryz.underlying4
  a4 := Tryz.isAgg4
  z4 := Tryz.sizeOf4
  v4 := Tryz.zeroValue4
  t5 := Tryz.underlying5
  a5 := Tryz.isAgg5
  z5 := Tryz.sizeOf5
  v5 := Tryz.zeroValue5
  t9 := Tryz.underlying9
  a9 := Tryz.isAgg9
  z9 := Tryz.sizeOf9
  v9 := Tryz.zeroValue9
  t20 := Tryz.underlying20
  a20 := Tryz.isAgg20
  z20 := Tryz.sizeOf20
  v20 := Tryz.zeroValue20
  t37 := Tryz.underlying215
  a37 := Tryz.isAgg215
  z37 := Tryz.sizeOf215
  v37 := Tryz.zeroValue215
  t46 := Tryz.underlying252
  a46 := Tryz.isAgg252
  z46 := Tryz.sizeOf252
  v46 := Tryz.zeroValue252
  t51 := Tryz.underlying259
  a51 := Tryz.isAgg259
  z51 := Tryz.sizeOf259
  v51 := Tryz.zeroValue259
  t53 := Tryz.underlying238
  a53 := Tryz.isAgg238
  z53 := Tryz.sizeOf238
  v53 := Tryz.zeroValue238
  t171 := Tryz.underlying237
  a171 := Tryz.isAgg237
  z171 := Tryz.sizeOf237
  v171 := Tryz.zeroValue237
  t173 := Tryz.underlying241
  a173 := Tryz.isAgg241
  z173 := Tryz.sizeOf241
  v173 := Tryz.zeroValue241
  t212 := Tryz.underlying258
  a212 := Tryz.isAgg258
  z212 := Tryz.sizeOf258
  v212 := Tryz.zeroValue258
  t213 := Tryz.underlying260
  a213 := Tryz.isAgg260
  z213 := Tryz.sizeOf260
  t232 := Tryz.underlying276
  a232 := Tryz.isAgg276
  z232 := Tryz.sizeOf276
  v232 := Tryz.zeroValue276
  t233 := Tryz.underlying277
  a233 := Tryz.isAgg277
  z233 := Tryz.sizeOf277
  v233 := Tryz.zeroValue277
  g17 := by kernel_rfl
  g18 := by kernel_rfl
  g19 := by kernel_rfl
  i0 := by kernel_rfl
  i2 := by kernel_rfl
  i3 := by kernel_rfl
  i4 := by kernel_rfl
  i5 := by kernel_rfl
  i9 := by kernel_rfl
  i20 := by kernel_rfl
  i37 := by kernel_rfl
  i46 := by kernel_rfl
  i51 := by kernel_rfl
  i53 := by kernel_rfl
  i171 := by kernel_rfl
  i173 := by kernel_rfl
  i212 := by kernel_rfl
  i232 := by kernel_rfl
  i233 := by kernel_rfl
  m17 := by kernel_rfl
  m18 := by kernel_rfl
  m19 := by kernel_rfl }
open Go.RowKit Go.Sort Go.Lib in
theorem Tryz.strconv_Itoa (n : Int) (h0 : -9223372036854775808 ≤ n) (h1 : n ≤ 9223372036854775807) (w : World) (htab : Lib.TabIs Tryz.prog w "internal/strconv.uint64pow10" .u64 Lib.pow10Tab) :
    Calls Tryz.prog 163 #[.int .i64 n] w fun e w' => e = .returned (.string ⟨(Lib.itoa n).toArray⟩) ∧ ∃ k os, w' = grow (w.drewN k) os := Any.strconv_Itoa Tryz.laysM171 n h0 h1 w htab
def Tryz.lays146_ren : Go.Shelf.Ren := ⟨fun | 146 => 211 | 221 => 238 | 268 => 265 | 138 => 266 | 143 => 267 | 195 => 284 | 197 => 233 | 218 => 285 | 219 => 286 | 260 => 262 | 217 => 297 | 225 => 283 | 224 => 282 | 267 => 298 | 266 => 304 | 314 => 305 | n => n, fun | 9 => 9 | 31 => 29 | 3 => 3 | 4 => 4 | 0 => 0 | 105 => 208 | 21 => 21 | 5 => 5 | 46 => 252 | 119 => 251 | 139 => 255 | 138 => 254 | 146 => 271 | 51 => 259 | n => n, fun | 1 => 7 | 3 => 3 | 4 => 4 | n => n⟩
theorem Tryz.lays146 : Go.Proofs.Lays.n146 Tryz.prog Tryz.lays146_ren := {
  mixed := by kernel_rfl
  f138 := Tryz.func266.trans (congrArg some (by kernel_rfl))
  f143 := Tryz.func267.trans (congrArg some (by kernel_rfl))
  f146 := Tryz.func211.trans (congrArg some (by kernel_rfl))
  f195 := Tryz.func284.trans (congrArg some (by kernel_rfl))
  f197 := Tryz.func233.trans (congrArg some (by kernel_rfl))
  f217 := Tryz.func297.trans (congrArg some (by kernel_rfl))
  f218 := Tryz.func285.trans (congrArg some (by kernel_rfl))
  f219 := Tryz.func286.trans (congrArg some (by kernel_rfl))
  f221 := Tryz.func238.trans (congrArg some (by kernel_rfl))
  f224 := Tryz.func282.trans (congrArg some (by kernel_rfl))
  f225 := Tryz.func283.trans (congrArg some (by kernel_rfl))
  f260 := Tryz.func262.trans (congrArg some (by kernel_rfl))
  f266 := Tryz.func304.trans (congrArg some (by kernel_rfl))
  f267 := Tryz.func298.trans (congrArg some (by kernel_rfl))
  f268 := Tryz.func265.trans (congrArg some (by kernel_rfl))
  f314 := Tryz.func305.trans (congrArg some (by kernel_rfl))
  t0 := Tryz.underlying0
  a0 := Tryz.isAgg0
  z0 := Tryz.sizeOf0
  v0 := Tryz.zeroValue0
  t3 := Tryz.underlying3
  a3 := Tryz.isAgg3
  z3 := Tryz.sizeOf3
  v3 := Tryz.zeroValue3
  t4 := Tryz.underlying4
  a4 := Tryz.isAgg4
  z4 := Tryz.sizeOf4
  v4 := Tryz.zeroValue4
  t5 := Tryz.underlying5
  a5 := Tryz.isAgg5
  z5 := Tryz.sizeOf5
  v5 := Tryz.zeroValue5
  t9 := Tryz.underlying9
  a9 := Tryz.isAgg9
  z9 := Tryz.sizeOf9
  v9 := Tryz.zeroValue9
  t21 := Tryz.underlying21
  a21 := Tryz.isAgg21
  z21 := Tryz.sizeOf21
  v21 := Tryz.zeroValue21
  t31 := Tryz.underlying29
  a31 := Tryz.isAgg29
  z31 := Tryz.sizeOf29
  v31 := Tryz.zeroValue29
  t46 := Tryz.underlying252
  a46 := Tryz.isAgg252
  z46 := Tryz.sizeOf252
  v46 := Tryz.zeroValue252
  t51 := Tryz.underlying259
  a51 := Tryz.isAgg259
  z51 := Tryz.sizeOf259
  v51 := Tryz.zeroValue259
  t105 := Tryz.underlying208
  a105 := Tryz.isAgg208
  z105 := Tryz.sizeOf208
  v105 := Tryz.zeroValue208
  t119 := Tryz.underlying251
  a119 := Tryz.isAgg251
  z119 := Tryz.sizeOf251
  t138 := Tryz.underlying254
  a138 := Tryz.isAgg254
  z138 := Tryz.sizeOf254
  v138 := Tryz.zeroValue254
  t139 := Tryz.underlying255
  a139 := Tryz.isAgg255
  z139 := Tryz.sizeOf255
  v139 := Tryz.zeroValue255
  t146 := Tryz.underlying271
  a146 := Tryz.isAgg271
  z146 := Tryz.sizeOf271
  v146 := Tryz.zeroValue271
  g1 := by kernel_rfl
  g3 := by kernel_rfl
  g4 := by kernel_rfl }
open Go.RowKit Go.Lib in
theorem Tryz.strings_Split (s sep : ByteArray) (m : Int) (w : World) (hs : s.size < 4294967281) (hm : w.cell? ⟨7, 0, none⟩ = some (.int .i64 m)) (h1 : 1 ≤ sep.size) :
    Calls Tryz.prog 211 #[.string s, .string sep] w fun e w' =>
      e = .returned (.slice (some ⟨w.heap.size, 0, none⟩) (Lib.countB s sep + 1) (Lib.countB s sep + 1)) ∧ w' = w.alloc (.cells ((Lib.splitB sep 0 (Lib.countB s sep) s).map Value.string).toArray 9) := Any.strings_Split Tryz.lays146 (by kernel_rfl) s sep m w hs hm h1
end Go.Proofs
end

section
namespace Go.Proofs.YtjolkfjccojnnaaGreatDoor
open Go.ChangeShapes Go.WideShapes Go.ChangeAt Go.RowKit
set_option linter.unusedVariables false
theorem cellsA : Tryz.prog.cellsOf 54 = 7 := by kernel_rfl
set_option maxRecDepth 100000
end Go.Proofs.YtjolkfjccojnnaaGreatDoor
end

section
namespace Go.Av
open Go Go.RowKit Go.Proofs
set_option linter.unusedSimpArgs false
set_option linter.unusedVariables false

end Go.Av
end

section
namespace Go.Av
open Go

def r15 : RL := [(4, none)]
def s15 : SCode := qs (qr [qa 2 (.boxR 8 (.t 0)), qa 3 (.boxR 7 (.t 1)), qa 4 (.mov qf)] [2, 3]) (qs (.drawL [qa 5 (.loadF true 8 (.t 2)), qa 6 (.call (.f 5) [.t 5, .c (.int .i64 30)]), qa 7 (mt 6), qb 8 7 (.loadF true 8 (.t 2)), qb 9 7 (.call (.f 6) [.t 8]), qa 10 (.pick (.t 7) (.t 9) qf), qa 11 (mt 10), qb 12 11 (.loadF true 7 (.t 3)), qb 13 11 (.call (.f 40) [.t 12]), qa 14 (.pick (.t 11) (.t 13) qf), qa 15 (mt 14), qb 16 15 (.loadF true 8 (.t 2)), qb 17 15 (.loadF true 7 (.t 3)), qb 18 15 (.call (.f 41) [.t 17]), qb 19 15 (.call (.f 10) [.t 16, .t 18]), qa 20 (.pick (.t 15) (.t 19) qf), qa 4 (mt 20)] [4]) .ret)
theorem c15 : fnAt Proofs.Tryz.prog 15 [2000002, 2000003] = some (r15, s15) := by kernel_rfl

def r18 : RL := [(4, none)]
def s18 : SCode := qs (qr [qa 2 (.boxR 8 (.t 0)), qa 3 (.boxR 7 (.t 1)), qa 4 (.mov (.c .nil))] [2, 3]) (qs (qr [qa 5 (.mov (.c .nil))] [2, 3, 5]) (qs (qr [qa 11 (lm 8 2), qa 12 (lm 7 3), qa 13 (.call (.f 16) [.t 11, .t 12]), qa 10 (mt 13), qa 14 (.extract 0 (.t 10)), qa 15 (.extract 1 (.t 10)), qa 6 (.alloc 27 zU), ⟨none, none, .store 8 (.t 6) (.t 14)⟩, qa 7 (mt 15)] [3, 5, 7]) (qs (qs (qr [qa 16 (mt 7), qa 17 (.len (.t 16)), qa 18 (.mov (qi 0))] [3, 5, 16, 17, 18]) (qs (.block 0 (.loop (qs (qr [qa 19 (.bin .lss (.t 18) (.t 17))] [3, 5, 16, 17, 18, 19]) (qs (.cond (.t 19) .skip (.exit 0)) (qs (qs (.block 1 (qs (qr [qa 20 (.indexA 3 (.t 16) (.t 18)), qa 21 (lm 3 20), qa 9 (.alloc 93 [.int .i64 0, .int .i64 0, .int .i64 0]), ⟨none, none, .store 3 (.t 9) (.t 21)⟩] [3, 5, 9, 16, 17, 18]) (.drawT (.step (qa 22 (mt 5)) (.step (qa 23 (fa 1 9)) (.step (qa 25 (fa 2 9)) (.step (qa 27 (fa 6 3)) (.step (qa 28 (.loadF false 1 (.t 27))) (.step (qa 29 (fa 1 9)) (.both (.step (qa 24 (lo 23)) (.both (.step (qa 26 (lo 25)) (.step (qa 30 (lo 29)) (.step (qa 31 (.indexA 25 (.t 28) (.t 30))) (.step (qa 32 (fa 0 31)) (.step (qa 33 (lo 32)) (.step (qa 34 (.call (.f 43) [.t 33])) (.step (qa 35 (.build [.int .i64 0, .int .i64 0, .int .i64 0, .int .i64 0, .int .i64 0, .str []] [(0, (1, .t 24)), (4, (1, .t 26)), (5, (1, .t 34))])) (.step (qa 36 (.buildS 50 6 1 [.int .i64 0, .int .i64 0, .int .i64 0, .int .i64 0, .int .i64 0, .str []] [(0, .t 35)])) (.step (qa 37 (.append 50 6 56 (.t 22) (.t 36))) (.step (qa 5 (mt 37)) .done)))))))))) (.step (qa 30 (lo 29)) (.step (qa 31 (.indexA 25 (.t 28) (.t 30))) (.step (qa 32 (fa 0 31)) (.both (.step (qa 26 (lo 25)) (.step (qa 33 (lo 32)) (.step (qa 34 (.call (.f 43) [.t 33])) (.step (qa 35 (.build [.int .i64 0, .int .i64 0, .int .i64 0, .int .i64 0, .int .i64 0, .str []] [(0, (1, .t 24)), (4, (1, .t 26)), (5, (1, .t 34))])) (.step (qa 36 (.buildS 50 6 1 [.int .i64 0, .int .i64 0, .int .i64 0, .int .i64 0, .int .i64 0, .str []] [(0, .t 35)])) (.step (qa 37 (.append 50 6 56 (.t 22) (.t 36))) (.step (qa 5 (mt 37)) .done))))))) (.step (qa 33 (lo 32)) (.both (.step (qa 26 (lo 25)) (.step (qa 34 (.call (.f 43) [.t 33])) (.step (qa 35 (.build [.int .i64 0, .int .i64 0, .int .i64 0, .int .i64 0, .int .i64 0, .str []] [(0, (1, .t 24)), (4, (1, .t 26)), (5, (1, .t 34))])) (.step (qa 36 (.buildS 50 6 1 [.int .i64 0, .int .i64 0, .int .i64 0, .int .i64 0, .int .i64 0, .str []] [(0, .t 35)])) (.step (qa 37 (.append 50 6 56 (.t 22) (.t 36))) (.step (qa 5 (mt 37)) .done)))))) (.step (qa 34 (.call (.f 43) [.t 33])) (.step (qa 26 (lo 25)) (.step (qa 35 (.build [.int .i64 0, .int .i64 0, .int .i64 0, .int .i64 0, .int .i64 0, .str []] [(0, (1, .t 24)), (4, (1, .t 26)), (5, (1, .t 34))])) (.step (qa 36 (.buildS 50 6 1 [.int .i64 0, .int .i64 0, .int .i64 0, .int .i64 0, .int .i64 0, .str []] [(0, .t 35)])) (.step (qa 37 (.append 50 6 56 (.t 22) (.t 36))) (.step (qa 5 (mt 37)) .done)))))))))))))) (.both (.step (qa 26 (lo 25)) (.both (.step (qa 24 (lo 23)) (.step (qa 30 (lo 29)) (.step (qa 31 (.indexA 25 (.t 28) (.t 30))) (.step (qa 32 (fa 0 31)) (.step (qa 33 (lo 32)) (.step (qa 34 (.call (.f 43) [.t 33])) (.step (qa 35 (.build [.int .i64 0, .int .i64 0, .int .i64 0, .int .i64 0, .int .i64 0, .str []] [(0, (1, .t 24)), (4, (1, .t 26)), (5, (1, .t 34))])) (.step (qa 36 (.buildS 50 6 1 [.int .i64 0, .int .i64 0, .int .i64 0, .int .i64 0, .int .i64 0, .str []] [(0, .t 35)])) (.step (qa 37 (.append 50 6 56 (.t 22) (.t 36))) (.step (qa 5 (mt 37)) .done)))))))))) (.step (qa 30 (lo 29)) (.step (qa 31 (.indexA 25 (.t 28) (.t 30))) (.step (qa 32 (fa 0 31)) (.both (.step (qa 24 (lo 23)) (.step (qa 33 (lo 32)) (.step (qa 34 (.call (.f 43) [.t 33])) (.step (qa 35 (.build [.int .i64 0, .int .i64 0, .int .i64 0, .int .i64 0, .int .i64 0, .str []] [(0, (1, .t 24)), (4, (1, .t 26)), (5, (1, .t 34))])) (.step (qa 36 (.buildS 50 6 1 [.int .i64 0, .int .i64 0, .int .i64 0, .int .i64 0, .int .i64 0, .str []] [(0, .t 35)])) (.step (qa 37 (.append 50 6 56 (.t 22) (.t 36))) (.step (qa 5 (mt 37)) .done))))))) (.step (qa 33 (lo 32)) (.both (.step (qa 24 (lo 23)) (.step (qa 34 (.call (.f 43) [.t 33])) (.step (qa 35 (.build [.int .i64 0, .int .i64 0, .int .i64 0, .int .i64 0, .int .i64 0, .str []] [(0, (1, .t 24)), (4, (1, .t 26)), (5, (1, .t 34))])) (.step (qa 36 (.buildS 50 6 1 [.int .i64 0, .int .i64 0, .int .i64 0, .int .i64 0, .int .i64 0, .str []] [(0, .t 35)])) (.step (qa 37 (.append 50 6 56 (.t 22) (.t 36))) (.step (qa 5 (mt 37)) .done)))))) (.step (qa 34 (.call (.f 43) [.t 33])) (.step (qa 24 (lo 23)) (.step (qa 35 (.build [.int .i64 0, .int .i64 0, .int .i64 0, .int .i64 0, .int .i64 0, .str []] [(0, (1, .t 24)), (4, (1, .t 26)), (5, (1, .t 34))])) (.step (qa 36 (.buildS 50 6 1 [.int .i64 0, .int .i64 0, .int .i64 0, .int .i64 0, .int .i64 0, .str []] [(0, .t 35)])) (.step (qa 37 (.append 50 6 56 (.t 22) (.t 36))) (.step (qa 5 (mt 37)) .done)))))))))))))) (.step (qa 30 (lo 29)) (.step (qa 31 (.indexA 25 (.t 28) (.t 30))) (.step (qa 32 (fa 0 31)) (.both (.step (qa 24 (lo 23)) (.both (.step (qa 26 (lo 25)) (.step (qa 33 (lo 32)) (.step (qa 34 (.call (.f 43) [.t 33])) (.step (qa 35 (.build [.int .i64 0, .int .i64 0, .int .i64 0, .int .i64 0, .int .i64 0, .str []] [(0, (1, .t 24)), (4, (1, .t 26)), (5, (1, .t 34))])) (.step (qa 36 (.buildS 50 6 1 [.int .i64 0, .int .i64 0, .int .i64 0, .int .i64 0, .int .i64 0, .str []] [(0, .t 35)])) (.step (qa 37 (.append 50 6 56 (.t 22) (.t 36))) (.step (qa 5 (mt 37)) .done))))))) (.step (qa 33 (lo 32)) (.both (.step (qa 26 (lo 25)) (.step (qa 34 (.call (.f 43) [.t 33])) (.step (qa 35 (.build [.int .i64 0, .int .i64 0, .int .i64 0, .int .i64 0, .int .i64 0, .str []] [(0, (1, .t 24)), (4, (1, .t 26)), (5, (1, .t 34))])) (.step (qa 36 (.buildS 50 6 1 [.int .i64 0, .int .i64 0, .int .i64 0, .int .i64 0, .int .i64 0, .str []] [(0, .t 35)])) (.step (qa 37 (.append 50 6 56 (.t 22) (.t 36))) (.step (qa 5 (mt 37)) .done)))))) (.step (qa 34 (.call (.f 43) [.t 33])) (.step (qa 26 (lo 25)) (.step (qa 35 (.build [.int .i64 0, .int .i64 0, .int .i64 0, .int .i64 0, .int .i64 0, .str []] [(0, (1, .t 24)), (4, (1, .t 26)), (5, (1, .t 34))])) (.step (qa 36 (.buildS 50 6 1 [.int .i64 0, .int .i64 0, .int .i64 0, .int .i64 0, .int .i64 0, .str []] [(0, .t 35)])) (.step (qa 37 (.append 50 6 56 (.t 22) (.t 36))) (.step (qa 5 (mt 37)) .done)))))))))) (.both (.step (qa 26 (lo 25)) (.both (.step (qa 24 (lo 23)) (.step (qa 33 (lo 32)) (.step (qa 34 (.call (.f 43) [.t 33])) (.step (qa 35 (.build [.int .i64 0, .int .i64 0, .int .i64 0, .int .i64 0, .int .i64 0, .str []] [(0, (1, .t 24)), (4, (1, .t 26)), (5, (1, .t 34))])) (.step (qa 36 (.buildS 50 6 1 [.int .i64 0, .int .i64 0, .int .i64 0, .int .i64 0, .int .i64 0, .str []] [(0, .t 35)])) (.step (qa 37 (.append 50 6 56 (.t 22) (.t 36))) (.step (qa 5 (mt 37)) .done))))))) (.step (qa 33 (lo 32)) (.both (.step (qa 24 (lo 23)) (.step (qa 34 (.call (.f 43) [.t 33])) (.step (qa 35 (.build [.int .i64 0, .int .i64 0, .int .i64 0, .int .i64 0, .int .i64 0, .str []] [(0, (1, .t 24)), (4, (1, .t 26)), (5, (1, .t 34))])) (.step (qa 36 (.buildS 50 6 1 [.int .i64 0, .int .i64 0, .int .i64 0, .int .i64 0, .int .i64 0, .str []] [(0, .t 35)])) (.step (qa 37 (.append 50 6 56 (.t 22) (.t 36))) (.step (qa 5 (mt 37)) .done)))))) (.step (qa 34 (.call (.f 43) [.t 33])) (.step (qa 24 (lo 23)) (.step (qa 35 (.build [.int .i64 0, .int .i64 0, .int .i64 0, .int .i64 0, .int .i64 0, .str []] [(0, (1, .t 24)), (4, (1, .t 26)), (5, (1, .t 34))])) (.step (qa 36 (.buildS 50 6 1 [.int .i64 0, .int .i64 0, .int .i64 0, .int .i64 0, .int .i64 0, .str []] [(0, .t 35)])) (.step (qa 37 (.append 50 6 56 (.t 22) (.t 36))) (.step (qa 5 (mt 37)) .done)))))))))) (.step (qa 33 (lo 32)) (.both (.step (qa 24 (lo 23)) (.both (.step (qa 26 (lo 25)) (.step (qa 34 (.call (.f 43) [.t 33])) (.step (qa 35 (.build [.int .i64 0, .int .i64 0, .int .i64 0, .int .i64 0, .int .i64 0, .str []] [(0, (1, .t 24)), (4, (1, .t 26)), (5, (1, .t 34))])) (.step (qa 36 (.buildS 50 6 1 [.int .i64 0, .int .i64 0, .int .i64 0, .int .i64 0, .int .i64 0, .str []] [(0, .t 35)])) (.step (qa 37 (.append 50 6 56 (.t 22) (.t 36))) (.step (qa 5 (mt 37)) .done)))))) (.step (qa 34 (.call (.f 43) [.t 33])) (.step (qa 26 (lo 25)) (.step (qa 35 (.build [.int .i64 0, .int .i64 0, .int .i64 0, .int .i64 0, .int .i64 0, .str []] [(0, (1, .t 24)), (4, (1, .t 26)), (5, (1, .t 34))])) (.step (qa 36 (.buildS 50 6 1 [.int .i64 0, .int .i64 0, .int .i64 0, .int .i64 0, .int .i64 0, .str []] [(0, .t 35)])) (.step (qa 37 (.append 50 6 56 (.t 22) (.t 36))) (.step (qa 5 (mt 37)) .done)))))))) (.both (.step (qa 26 (lo 25)) (.both (.step (qa 24 (lo 23)) (.step (qa 34 (.call (.f 43) [.t 33])) (.step (qa 35 (.build [.int .i64 0, .int .i64 0, .int .i64 0, .int .i64 0, .int .i64 0, .str []] [(0, (1, .t 24)), (4, (1, .t 26)), (5, (1, .t 34))])) (.step (qa 36 (.buildS 50 6 1 [.int .i64 0, .int .i64 0, .int .i64 0, .int .i64 0, .int .i64 0, .str []] [(0, .t 35)])) (.step (qa 37 (.append 50 6 56 (.t 22) (.t 36))) (.step (qa 5 (mt 37)) .done)))))) (.step (qa 34 (.call (.f 43) [.t 33])) (.step (qa 24 (lo 23)) (.step (qa 35 (.build [.int .i64 0, .int .i64 0, .int .i64 0, .int .i64 0, .int .i64 0, .str []] [(0, (1, .t 24)), (4, (1, .t 26)), (5, (1, .t 34))])) (.step (qa 36 (.buildS 50 6 1 [.int .i64 0, .int .i64 0, .int .i64 0, .int .i64 0, .int .i64 0, .str []] [(0, .t 35)])) (.step (qa 37 (.append 50 6 56 (.t 22) (.t 36))) (.step (qa 5 (mt 37)) .done)))))))) (.step (qa 34 (.call (.f 43) [.t 33])) (.both (.step (qa 24 (lo 23)) (.step (qa 26 (lo 25)) (.step (qa 35 (.build [.int .i64 0, .int .i64 0, .int .i64 0, .int .i64 0, .int .i64 0, .str []] [(0, (1, .t 24)), (4, (1, .t 26)), (5, (1, .t 34))])) (.step (qa 36 (.buildS 50 6 1 [.int .i64 0, .int .i64 0, .int .i64 0, .int .i64 0, .int .i64 0, .str []] [(0, .t 35)])) (.step (qa 37 (.append 50 6 56 (.t 22) (.t 36))) (.step (qa 5 (mt 37)) .done)))))) (.step (qa 26 (lo 25)) (.step (qa 24 (lo 23)) (.step (qa 35 (.build [.int .i64 0, .int .i64 0, .int .i64 0, .int .i64 0, .int .i64 0, .str []] [(0, (1, .t 24)), (4, (1, .t 26)), (5, (1, .t 34))])) (.step (qa 36 (.buildS 50 6 1 [.int .i64 0, .int .i64 0, .int .i64 0, .int .i64 0, .int .i64 0, .str []] [(0, .t 35)])) (.step (qa 37 (.append 50 6 56 (.t 22) (.t 36))) (.step (qa 5 (mt 37)) .done)))))))))))))))))))))))) [3, 5, 16, 17, 18]))) (qr [] [3, 5, 16, 17, 18])) (qr [qa 38 (.bin .add (.t 18) (qi 1)), qa 18 (mt 38)] [3, 5, 16, 17, 18])))))) (qr [] [5]))) (qs (qr [qa 39 (mt 5), qa 4 (mt 39)] [4]) .ret))))
theorem c18 : fnAt Proofs.Tryz.prog 18 [2000002, 2000003] = some (r18, s18) := by kernel_rfl

def r42 : RL := [(4, some (true, 8)), (5, none)]
def s42 : SCode := qs (qr [qa 2 (.box 27 8 (.t 0)), qa 4 (.alloc 27 zU), qa 5 (.mov (.c .nil))] [1, 2, 4]) (qs (qr [qa 6 (.mov (.c .nil))] [1, 2, 4, 6]) (qs (qs (qr [qa 11 (mt 1), qa 12 (.len (.t 11)), qa 13 (.mov (qi 0))] [2, 4, 6, 11, 12, 13]) (qs (.block 0 (.loop (qs (qr [qa 14 (.bin .lss (.t 13) (.t 12))] [2, 4, 6, 11, 12, 13, 14]) (qs (.cond (.t 14) .skip (.exit 0)) (qs (qs (.block 1 (qs (qr [qa 15 (.indexA 28 (.t 11) (.t 13)), qa 16 (lm 28 15), qa 8 (.alloc 36 [.int .i64 0, .int .i64 0, .int .i64 0, .int .i64 0, .nil, .nil, .int .i64 0, .int .i64 0, .int .i64 0, .int .i64 0, .int .i64 0, .int .i64 0, .str [], .nil, .nil, .nil, .nil, .nil, .str [], .str [], .int .i64 0, .int .i64 0, .str [], .int .i64 0, .int .i64 0, .int .i64 0, .str [], .nil]), ⟨none, none, .store 28 (.t 8) (.t 16)⟩] [2, 4, 6, 8, 11, 12, 13]) (qs (qs (qr [qa 17 (fa 3 8), qa 18 (fa 0 17), qa 19 (lo 18), qa 20 (.call (.f 68) [.t 19]), qa 21 (.not (.t 20))] [2, 4, 6, 8, 11, 12, 13, 21]) (.cond (.t 21) (.exit 1) .skip)) (qs (qr [qa 23 (lm 8 2), qa 24 (lm 28 8), qa 25 (.call (.f 12) [.t 23, .t 24]), qa 22 (mt 25), qa 26 (.extract 0 (.t 22)), qa 27 (.extract 1 (.t 22)), qa 9 (.alloc 27 zU), ⟨none, none, .store 8 (.t 9) (.t 26)⟩, qa 10 (mt 27)] [2, 4, 6, 8, 9, 10, 11, 12, 13]) (qs (qs (qr [qa 28 (mt 10), qa 29 (.bin .neq (.t 28) (qi 0))] [2, 4, 6, 8, 9, 10, 11, 12, 13, 29]) (.cond (.t 29) (qr [qa 30 (mt 6), qa 31 (fa 0 8), qa 32 (lo 31), qa 33 (fa 1 8), qa 34 (lo 33), qa 35 (mt 10), qa 36 (.build [.int .i64 0, .int .i64 0, .int .i64 0] [(0, (1, .t 32)), (1, (1, .t 34)), (2, (1, .t 35))]), qa 37 (.buildS 93 3 1 [.int .i64 0, .int .i64 0, .int .i64 0] [(0, .t 36)]), qa 38 (.append 93 3 24 (.t 30) (.t 37)), qa 6 (mt 38)] [2, 4, 6, 9, 11, 12, 13]) .skip)) (qr [qa 39 (lm 8 9), ⟨none, none, .store 8 (.t 2) (.t 39)⟩] [2, 4, 6, 11, 12, 13])))))) (qr [] [2, 4, 6, 11, 12, 13])) (qr [qa 40 (.bin .add (.t 13) (qi 1)), qa 13 (mt 40)] [2, 4, 6, 11, 12, 13])))))) (qr [] [2, 4, 6]))) (qs (qr [qa 41 (lm 8 2), qa 42 (mt 6), ⟨none, none, .store 8 (.t 4) (.t 41)⟩, qa 5 (mt 42)] [4, 5]) .ret)))
theorem c42 : fnAt Proofs.Tryz.prog 42 [] = some (r42, s42) := by kernel_rfl

end Go.Av
end

section
namespace Go.Av
open Go

def r4 : RL := [(4, none)]
def s4 : SCode := qs (qr [qa 2 (.boxR 8 (.t 0)), qa 3 (.boxR 7 (.t 1)), qa 4 (.mov qf)] [2, 3]) (qs (qs (qr [qa 10 (lm 8 2), qa 11 (lm 7 3), qa 12 (.call (.f 15) [.t 10, .t 11]), qa 13 (.not (.t 12))] [2, 3, 13]) (.cond (.t 13) (qs (qr [qa 14 (.call (.f 11) []), qa 4 (mt 14)] [4]) .ret) .skip)) (qs (qr [qa 16 (lm 8 2), qa 17 (lm 7 3), qa 18 (.call (.f 16) [.t 16, .t 17]), qa 15 (mt 18), qa 19 (.extract 0 (.t 15)), qa 20 (.extract 1 (.t 15)), qa 5 (.alloc 27 zU), ⟨none, none, .store 8 (.t 5) (.t 19)⟩, qa 6 (mt 20)] [2, 3, 6]) (qs (qs (qr [qa 21 (lm 8 2), qa 22 (lm 7 3), qa 23 (.call (.f 17) [.t 21, .t 22]), qa 24 (mt 23), qb 25 24 (mt 6), qb 26 24 (.len (.t 25)), qb 27 24 (.bin .gtr (.t 26) (qi 0)), qa 28 (.pick (.t 24) (.t 27) qf)] [2, 3, 6, 28]) (.cond (.t 28) (qs (qr [qa 4 (.mov qf)] [4]) .ret) .skip)) (qs (qr [qa 7 (.mov (qi (-1)))] [2, 3, 6, 7]) (qs (qs (qr [qa 29 (lm 8 2), qa 30 (lm 7 3), qa 31 (.call (.f 18) [.t 29, .t 30]), qa 32 (.len (.t 31)), qa 33 (.mov (qi 0))] [2, 3, 6, 7, 31, 32, 33]) (qs (.block 0 (.loop (qs (qr [qa 34 (.bin .lss (.t 33) (.t 32))] [2, 3, 6, 7, 31, 32, 33, 34]) (qs (.cond (.t 34) .skip (.exit 0)) (qs (qs (.block 1 (qs (qr [qa 35 (.indexA 6 (.t 31) (.t 33)), qa 36 (lm 6 35), qa 9 (.alloc 50 [.int .i64 0, .int .i64 0, .int .i64 0, .int .i64 0, .int .i64 0, .str []]), ⟨none, none, .store 6 (.t 9) (.t 36)⟩] [2, 3, 6, 7, 9, 31, 32, 33]) (qs (qs (qr [qa 37 (fa 0 9), qa 38 (lo 37), qa 39 (mt 7), qa 40 (.bin .leq (.t 38) (.t 39)), qa 41 (mt 40), qc 42 41 (fa 0 9), qc 43 41 (lo 42), qc 44 41 (fa 6 3), qc 45 41 (lo 44), qc 46 41 (.len (.t 45)), qc 47 41 (.bin .geq (.t 43) (.t 46)), qa 48 (.pick (.t 41) qt (.t 47)), qa 49 (mt 48), qc 50 49 (fa 4 9), qc 51 49 (lo 50), qc 52 49 (.bin .eql (.t 51) (qi 0)), qa 53 (.pick (.t 49) qt (.t 52))] [2, 3, 6, 9, 31, 32, 33, 53]) (.cond (.t 53) (qs (qr [qa 4 (.mov qf)] [4]) .ret) .skip)) (qr [qa 54 (fa 0 9), qa 55 (lo 54), qa 7 (mt 55)] [2, 3, 6, 7, 31, 32, 33])))) (qr [] [2, 3, 6, 7, 31, 32, 33])) (qr [qa 56 (.bin .add (.t 33) (qi 1)), qa 33 (mt 56)] [2, 3, 6, 7, 31, 32, 33])))))) (qr [] [2, 3, 6]))) (qs (qr [qa 57 (lm 8 2), qa 58 (lm 7 3), qa 59 (.call (.f 18) [.t 57, .t 58]), qa 60 (.len (.t 59)), qa 61 (mt 6), qa 62 (.len (.t 61)), qa 63 (.bin .eql (.t 60) (.t 62)), qa 64 (mt 63), qb 65 64 (.call (.f 11) []), qa 66 (.pick (.t 64) (.t 65) qf), qa 4 (mt 66)] [4]) .ret))))))
theorem c4 : fnAt Proofs.Tryz.prog 4 [2000002, 2000003] = some (r4, s4) := by kernel_rfl

def r16 : RL := [(4, some (true, 8)), (5, none)]
def s16 : SCode := qs (qr [qa 2 (.boxR 8 (.t 0)), qa 3 (.boxR 7 (.t 1)), qa 4 (.alloc 27 zU), qa 5 (.mov (.c .nil))] [2, 3, 4]) (qs (qr [qa 6 (.mov (.c .nil))] [2, 3, 4, 6]) (qs (qs (qr [qa 9 (fa 6 3), qa 10 (lo 9), qa 11 (.len (.t 10)), qa 12 (.mov (qi 0))] [2, 3, 4, 6, 10, 11, 12]) (qs (.block 0 (.loop (qs (qr [qa 13 (.bin .lss (.t 12) (.t 11))] [2, 3, 4, 6, 10, 11, 12, 13]) (qs (.cond (.t 13) .skip (.exit 0)) (qs (qs (.block 1 (qs (qr [qa 14 (mt 12), qa 15 (.indexA 25 (.t 10) (.t 12)), qa 16 (lm 25 15), qa 8 (.alloc 34 zItm), qa 7 (mt 14), ⟨none, none, .store 25 (.t 8) (.t 16)⟩] [2, 3, 4, 6, 7, 8, 10, 11, 12]) (qr [qa 17 (mt 6), qa 18 (fa 0 3), qa 19 (lo 18), qa 20 (mt 7), qa 21 (fa 2 3), qa 22 (lo 21), qa 23 (lm 25 8), qa 24 (.build [.int .i64 0, .int .i64 0, .int .i64 0, .int .i64 0, .nil, .nil, .int .i64 0, .int .i64 0, .int .i64 0, .int .i64 0, .int .i64 0, .int .i64 0, .str [], .nil, .nil, .nil, .nil, .nil, .str [], .str [], .int .i64 0, .int .i64 0, .str [], .int .i64 0, .int .i64 0, .int .i64 0, .str [], .nil] [(0, (1, .t 19)), (1, (1, .t 20)), (2, (1, .t 22)), (3, (25, .t 23))]), qa 25 (.buildS 36 28 1 [.int .i64 0, .int .i64 0, .int .i64 0, .int .i64 0, .nil, .nil, .int .i64 0, .int .i64 0, .int .i64 0, .int .i64 0, .int .i64 0, .int .i64 0, .str [], .nil, .nil, .nil, .nil, .nil, .str [], .str [], .int .i64 0, .int .i64 0, .str [], .int .i64 0, .int .i64 0, .int .i64 0, .str [], .nil] [(0, .t 24)]), qa 26 (.append 36 28 392 (.t 17) (.t 25)), qa 6 (mt 26)] [2, 3, 4, 6, 10, 11, 12]))) (qr [] [2, 3, 4, 6, 10, 11, 12])) (qr [qa 27 (.bin .add (.t 12) (qi 1)), qa 12 (mt 27)] [2, 3, 4, 6, 10, 11, 12])))))) (qr [] [2, 4, 6]))) (qs (qr [qa 28 (lm 8 2), qa 29 (mt 6), qa 30 (.call (.f 42) [.t 28, .t 29]), qa 31 (.extract 0 (.t 30)), qa 32 (.extract 1 (.t 30)), ⟨none, none, .store 8 (.t 4) (.t 31)⟩, qa 5 (mt 32)] [4, 5]) .ret)))
theorem c16 : fnAt Proofs.Tryz.prog 16 [2000002, 2000003] = some (r16, s16) := by kernel_rfl

def r43 : RL := [(2, none)]
def s43 : SCode := qs (qr [qa 2 (.mov (.c (.str [])))] [0]) (qs (qs (qr [qa 3 (mt 0), qa 4 (.bin .lss (.t 3) (qi 0)), qa 5 (mt 4), qc 6 5 (mt 0), qc 7 5 (.bin .geq (.t 6) (qi 12)), qa 8 (.pick (.t 5) qt (.t 7))] [0, 8]) (.cond (.t 8) (qs (qr [qa 2 (.mov (.c (.str [])))] [2]) .ret) .skip)) (qs (qr [qa 9 (mt 0), qa 10 (.indexP 12 1 (.g 0) (.t 9)), qa 11 (lo 10), qa 2 (mt 11)] [2]) .ret))
theorem c43 : fnAt Proofs.Tryz.prog 43 [] = some (r43, s43) := by kernel_rfl

end Go.Av
end

section
namespace Go.Av
open Go

def r17 : RL := [(4, none)]
def s17 : SCode := qs (qr [qa 2 (.boxR 8 (.t 0)), qa 3 (.boxR 7 (.t 1)), qa 4 (.mov qf)] [2, 3]) (qs (qr [qa 5 (lm 7 3), qa 6 (.call (.f 33) [.t 5]), qa 7 (.len (.t 6)), qa 8 (.bin .eql (.t 7) (qi 0)), qa 9 (mt 8), qb 10 9 (lm 8 2), qb 11 9 (lm 7 3), qb 12 9 (.call (.f 18) [.t 10, .t 11]), qb 13 9 (.len (.t 12)), qb 14 9 (.bin .eql (.t 13) (qi 0)), qa 15 (.pick (.t 9) (.t 14) qf), qa 4 (mt 15)] [4]) .ret)
theorem c17 : fnAt Proofs.Tryz.prog 17 [2000002, 2000003] = some (r17, s17) := by kernel_rfl

def r41 : RL := [(2, none)]
def s41 : SCode := qs (qr [qa 1 (.boxR 7 (.t 0)), qa 2 (.mov (.c .nil))] [1]) (qs (qr [qa 5 (.buildS 36 28 0 [] []), qa 3 (mt 5)] [1, 3]) (qs (qs (qr [qa 4 (.mov (qi 0))] [1, 3, 4]) (qs (.block 0 (.loop (qs (qs (qr [qa 6 (mt 4), qa 7 (fa 6 1), qa 8 (lo 7), qa 9 (.len (.t 8)), qa 10 (.bin .lss (.t 6) (.t 9))] [1, 3, 4, 10]) (.cond (.t 10) .skip (.exit 0))) (qs (qs (.block 1 (.drawL [qa 13 (mt 3), qa 14 (fa 0 1), qa 15 (.loadF false 1 (.t 14)), qa 16 (mt 4), qa 17 (fa 2 1), qa 18 (.loadF false 1 (.t 17)), qa 19 (fa 6 1), qa 20 (.loadF false 1 (.t 19)), qa 21 (mt 4), qa 22 (.indexA 25 (.t 20) (.t 21)), qa 23 (lm 25 22), qa 24 (.build [.int .i64 0, .int .i64 0, .int .i64 0, .int .i64 0, .nil, .nil, .int .i64 0, .int .i64 0, .int .i64 0, .int .i64 0, .int .i64 0, .int .i64 0, .str [], .nil, .nil, .nil, .nil, .nil, .str [], .str [], .int .i64 0, .int .i64 0, .str [], .int .i64 0, .int .i64 0, .int .i64 0, .str [], .nil] [(0, (1, .t 15)), (1, (1, .t 16)), (2, (1, .t 18)), (3, (25, .t 23))]), qa 25 (.buildS 36 28 1 [.int .i64 0, .int .i64 0, .int .i64 0, .int .i64 0, .nil, .nil, .int .i64 0, .int .i64 0, .int .i64 0, .int .i64 0, .int .i64 0, .int .i64 0, .str [], .nil, .nil, .nil, .nil, .nil, .str [], .str [], .int .i64 0, .int .i64 0, .str [], .int .i64 0, .int .i64 0, .int .i64 0, .str [], .nil] [(0, .t 24)]), qa 26 (.append 36 28 392 (.t 13) (.t 25)), qa 3 (mt 26)] [1, 3, 4])) (qr [] [1, 3, 4])) (qr [qa 11 (mt 4), qa 12 (.bin .add (.t 11) (qi 1)), qa 4 (mt 12)] [1, 3, 4]))))) (qr [] [3]))) (qs (qr [qa 27 (mt 3), qa 2 (mt 27)] [2]) .ret)))
theorem c41 : fnAt Proofs.Tryz.prog 41 [2000001] = some (r41, s41) := by kernel_rfl

end Go.Av
end

section
namespace Go.Av
open Go Go.RowKit Go.Proofs
set_option linter.unusedSimpArgs false
set_option linter.unusedVariables false

def cutAcc : List UInt8 → List UInt8 → List (List UInt8)
  | acc, [] => [acc]
  | acc, c :: s => if c = 32 then acc :: cutAcc [] s else cutAcc (acc ++ [c]) s
def cut32 (s : List UInt8) : List (List UInt8) := cutAcc [] s

def hdc (c : UInt8) : List (List UInt8) → List (List UInt8)
  | [] => []
  | a :: l => (c :: a) :: l
theorem cutAcc_cons (c : UInt8) : ∀ (s acc : List UInt8), cutAcc (c :: acc) s = hdc c (cutAcc acc s)
  | [], acc => rfl
  | d :: s, acc => by
    simp only [cutAcc]
    split
    · rfl
    · exact cutAcc_cons c s (acc ++ [d])
theorem cut32_cons (c : UInt8) (s : List UInt8) : cut32 (c :: s) = if c = 32 then [] :: cut32 s else hdc c (cut32 s) := by
  simp only [cut32, cutAcc]
  split
  · rfl
  · exact cutAcc_cons c s []
theorem hdc_len (c : UInt8) : ∀ l : List (List UInt8), (hdc c l).length = l.length
  | [] => rfl
  | a :: l => rfl
theorem cut32_len : ∀ s : List UInt8, (cut32 s).length ≤ s.length + 1
  | [] => by simp [cut32, cutAcc]
  | c :: s => by
    have := cut32_len s
    rw [cut32_cons]
    split
    · simp; omega
    · rw [hdc_len]; simp; omega
theorem cut32_pos : ∀ s : List UInt8, 0 < (cut32 s).length
  | [] => by simp [cut32, cutAcc]
  | c :: s => by
    have := cut32_pos s
    rw [cut32_cons]
    split
    · simp
    · rw [hdc_len]; exact this
theorem split_cut : ∀ s : List UInt8, Lib.splitK [32] 0 (Lib.count s [32]) s = cut32 s
  | [] => rfl
  | c :: s => by
    have ih := split_cut s
    rw [cut32_cons]
    by_cases hc : c = 32
    · subst hc
      have hix : Lib.index (32 :: s) [32] = 0 := by rw [Lib.index]; simp [List.isPrefixOf]
      rw [if_pos rfl, Lib.count_cons_eq, Nat.add_comm, Lib.splitK, hix, ← ih]
      rfl
    · have hp : ([32] : List UInt8).isPrefixOf (c :: s) = false := by simp [List.isPrefixOf, Ne.symm hc]
      have hix : Lib.index (c :: s) [32] = if Lib.index s [32] == -1 then -1 else Lib.index s [32] + 1 := by rw [Lib.index, hp]; simp
      rw [if_neg hc, Lib.count_cons_ne c 32 s hc, ← ih]
      by_cases hm : Lib.index s [32] = -1
      · rw [Lib.count_miss hm]
        rfl
      · have hge := Lib.index_ge s [32]
        obtain ⟨j, hj⟩ : ∃ j : Nat, Lib.index s [32] = j := ⟨(Lib.index s [32]).toNat, by omega⟩
        have hn : ((j : Int) == -1) = false := beq_eq_false_iff_ne.2 (by omega)
        have hn2 : ((j : Int) + 1 == -1) = false := beq_eq_false_iff_ne.2 (by omega)
        rw [Lib.count_hit (by simp) hj, Nat.add_comm]
        simp only [Lib.splitK, hix, hj, hn, hn2, Bool.false_eq_true, if_false, hdc, List.length_cons, List.length_nil, Nat.add_zero, Int.toNat_natCast]
        have e : ((j : Int) + 1).toNat = j + 1 := by omega
        rw [e]
        simp [List.take_succ_cons]
theorem Pure.of_calls2 {G : Glob} {P : Program} {k : FuncId} {fn : Func} {args : List AV} {r : AV} (hf : P.funcs[k]? = some fn) (hn : (fn.name == "runtime.NumGoroutine") = false) (hb : fn.body.isNone = false)
    (h : ∀ (τ : Store) (w : World) (vs : Array Value), Sat G τ w → RepL τ w args vs.toList → Calls P k vs w fun e w' => ∃ v, e = .returned v ∧ Below w.heap.size w w' ∧ ∀ τ' : Store, (∀ b ∈ τ'.keys, b < w.heap.size) → Rep τ' w' r v) : Pure G P k args r :=
  ⟨⟨fn, hf, hn, hb⟩, fun ρ w vs hS hA => by
    refine (h _ w vs hS hA).mono ?_
    rintro e w' ⟨v, rfl, hB, hr⟩
    exact ⟨v, r, [], rfl, ⟨rfl, rfl⟩, by simpa using Sat.below (by simpa using hS) hB, Ev.below hB, hr _ (fun b hb => by
      obtain ⟨⟨b', x⟩, hx, rfl⟩ := List.mem_map.1 hb
      exact (hS.obj _ _ (by simpa using hx)).lt)⟩⟩

structure GOk2 (G : Glob) : Prop where
  max : ∀ τ w, Sat G τ w → ∃ m, w.cell? ⟨7, 0, none⟩ = some (.int .i64 m)
  pow : ∀ τ w, Sat G τ w → Lib.TabIs Tryz.prog w "internal/strconv.uint64pow10" .u64 Lib.pow10Tab

section
variable (G : Glob)
theorem f163 (hG : GOk2 G) (n : Int) (h0 : -9223372036854775808 ≤ n) (h1 : n ≤ 9223372036854775807) : Pure G Tryz.prog 163 [.int .i64 n] (.str (Lib.itoa n)) := by
  refine Pure.of_calls Tryz.func163 (by kernel_rfl) (by kernel_rfl) fun τ w vs hS hA => ?_
  obtain ⟨u, rfl, h2⟩ := vs_one hA
  simp only [Rep] at h2
  subst h2
  refine ⟨.string ⟨(Lib.itoa n).toArray⟩, fun _ _ => by simp only [Rep], ?_⟩
  refine (Tryz.strconv_Itoa n h0 h1 w (hG.pow τ w hS)).mono ?_
  rintro e w' ⟨rfl, k, os, rfl⟩
  exact ⟨rfl, Lib.below_grow _ _ (Nat.le_refl _) _ _⟩
theorem f211 (hG : GOk2 G) (s : List UInt8) (hs : s.length < 4294967281) : Pure G Tryz.prog 211 [.str s, .str [32]] (.lst 1 ((cut32 s).map srow)) := by
  refine Pure.of_calls2 Tryz.func211 (by kernel_rfl) (by kernel_rfl) fun τ w vs hS hA => ?_
  obtain ⟨u, v, rfl, h1, h2⟩ := jD hA
  simp only [Rep] at h1 h2
  subst h1 h2
  obtain ⟨m, hm⟩ := hG.max τ w hS
  refine (Tryz.strings_Split ⟨⟨s⟩⟩ ⟨⟨[32]⟩⟩ m w hs hm (by decide)).mono ?_
  rintro e w' ⟨rfl, rfl⟩
  have hsp : (Lib.splitB ⟨⟨[32]⟩⟩ 0 (Lib.countB ⟨⟨s⟩⟩ ⟨⟨[32]⟩⟩) ⟨⟨s⟩⟩).map (·.data.toList) = cut32 s := (Lib.splitB_data _ _ _ _).trans (split_cut s)
  have hln := Lib.splitB_all ⟨⟨[32]⟩⟩ (by decide) 0 _ ⟨⟨s⟩⟩ rfl
  have hle := Lib.countB_le ⟨⟨[32]⟩⟩ (by decide) _ ⟨⟨s⟩⟩ (Nat.le_refl _)
  generalize Lib.splitB ⟨⟨[32]⟩⟩ 0 (Lib.countB ⟨⟨s⟩⟩ ⟨⟨[32]⟩⟩) ⟨⟨s⟩⟩ = l at *
  generalize Lib.countB ⟨⟨s⟩⟩ ⟨⟨[32]⟩⟩ = n at *
  refine ⟨_, rfl, (Below.refl _ _).alloc (Nat.le_refl _) _, fun τ' hτ => ?_⟩
  have hl2 : (cut32 s).length = n + 1 := by rw [← hsp, List.length_map, hln]
  simp only [Rep]
  right
  refine ⟨_, n + 1, by rw [List.length_map, hl2], by rw [List.length_map, hl2]; exact Nat.le_refl _, ?_, av.of_get fun j hj => ?_⟩
  · have : (ByteArray.size ⟨⟨s⟩⟩) = s.length := rfl
    unfold maxLen
    omega
  · have hj2 : j < l.length := by rw [List.length_map] at hj; omega
    rw [List.getElem_map, Nat.zero_add, Nat.mul_one]
    refine ⟨rfl, RepAt.of_get fun i hi => ?_⟩
    have hi0 : i = 0 := by simp [srow] at hi; omega
    subst hi0
    have hc : (w.alloc (.cells (l.map Value.string).toArray 9)).cell? ⟨w.heap.size, j, none⟩ = some (.string l[j]) := by
      rw [World.cell?_alloc_at _ _ _ _ rfl, List.getElem?_toArray, List.getElem?_map, List.getElem?_eq_getElem hj2]
      rfl
    refine ⟨.string l[j], ⟨?_, fun hm => ?_⟩, rfl, ?_⟩
    · rw [add_lit, Nat.add_zero, Nat.zero_add]
      exact hc
    · rw [add_lit] at hm
      exact absurd (hτ _ hm.of_key) (Nat.lt_irrefl _)
    · have e : (cut32 s)[j]'(by omega) = l[j].data.toList := by simp [← hsp]
      simp [srow, Rep, e]

theorem f213 (s : List UInt8) : Pure G Tryz.prog 213 [.str s] (.bool (!bQ s)) := by
  refine Pure.w c213 fun R hR => ?_
  unfold s213 r213
  (repeat' (first | (with_reducible refine ab (f214 G _) ?_) | simp only [EVz, seval, ↓reduceIte, EV6, EV7] | fail))
  (all_goals ((exact RET.eq hR rfl)))
def cutW (s : List UInt8) : List (List UInt8) := if s = [] then [] else cut32 s
theorem f162 (hG : GOk2 G) (s : List UInt8) (hs : s.length < 4294967281) : Pure G Tryz.prog 162 [.str s]
    (.tup (if (cutW s).all bQ then (if 256 < (cutW s).length then [.nil, .int .i64 6] else [if s = [] then .nil else .lst 1 ((cutW s).map srow), .int .i64 0]) else [.nil, .int .i64 2])) := by
  refine Pure.w c162 fun R hR => ?_
  unfold s162 r162
  have hl : (cut32 s).length < 9000000000000000000 := by have := cut32_len s; omega
  (repeat' (first | (with_reducible (refine ae (fun h => ?_) (fun h => ?_)) <;> (try simp only [Da, Db, Dc, Dw, De, Df, Dg, Dh] at h)) | (with_reducible refine ab (f211 G hG s hs) ?_) | (with_reducible refine ab (f212 G _ (fun c => !bQ c) (cut32 s) hl (fun x _ => (f213 G x).v)) ?_) | simp only [EVz, seval, ↓reduceIte, EV6, EV7, ib] | fail))
  all_goals (refine RET.eq hR ?_)
  all_goals first | (simp_all [cutW]; done) | (simp_all [cutW]; omega) | (simp_all [cutW]; intro hall; obtain ⟨x, hx, hf⟩ := h; simp [hall x hx] at hf)

def titleOk (s : List UInt8) : Bool := (cutW s).all bQ && decide ((cutW s).length ≤ 256) && decide (s ≠ [])
theorem f97 (hG : GOk2 G) (s : List UInt8) (hs : s.length < 4294967281) : Pure G Tryz.prog 97 [.str s] (.bool (titleOk s)) := by
  refine Pure.w c97 fun R hR => ?_
  unfold s97 r97
  have hf := f162 G hG s hs
  have hl : (cut32 s).length < 9000000000000000000 := by have := cut32_len s; omega
  by_cases h1 : (cutW s).all bQ = true
  · by_cases h2 : 256 < (cutW s).length
    · rw [if_pos h1, if_pos h2] at hf
      (repeat' (first | (with_reducible refine ab (hf) ?_) | simp only [EVz, seval, ↓reduceIte, EV6, EV7] | fail))
      all_goals (refine RET.eq hR (congrArg AV.bool ?_); simp [titleOk, h1]; omega)
    · by_cases h3 : s = []
      · rw [if_pos h1, if_neg h2, if_pos h3] at hf
        (repeat' (first | (with_reducible refine ab (hf) ?_) | simp only [EVz, seval, ↓reduceIte, EV6, EV7] | fail))
        all_goals (refine RET.eq hR (congrArg AV.bool ?_); simp [titleOk, h3]; done)
      · rw [if_pos h1, if_neg h2, if_neg h3] at hf
        have h4 : cutW s = cut32 s := by simp [cutW, h3]
        have h5 : decide ((0 : Int) < ((cut32 s).length : Nat)) = true := by have := cut32_pos s; simp; omega
        rw [h4] at hf
        (repeat' (first | (with_reducible refine ab (hf) ?_) | simp only [EVz, seval, ↓reduceIte, EV6, EV7, h5] | fail))
        all_goals (refine RET.eq hR (congrArg AV.bool ?_); simp_all [titleOk]; done)
  · rw [if_neg h1] at hf
    (repeat' (first | (with_reducible refine ab (hf) ?_) | simp only [EVz, seval, ↓reduceIte, EV6, EV7] | fail))
    all_goals (refine RET.eq hR (congrArg AV.bool ?_); simp [titleOk, h1]; done)
end
end Go.Av
end

section
namespace Go.Av
open Go Go.RowKit Go.Proofs
set_option linter.unusedSimpArgs false
set_option linter.unusedVariables false
def startAct (s : Sta) : Bool :=
  if s.kind = 1 then inR s.day 0 1048576 && decide (s.event = []) else if s.kind = 2 then decide (s.day = 0) && decide (s.event = []) else if s.kind = 3 then decide (s.day = 0) && d9 s.event else false
section
variable (G : Glob)
end
end Go.Av
end

section
namespace Go.Av
open Go Go.RowKit Go.Proofs
set_option linter.unusedSimpArgs false
set_option linter.unusedVariables false
structure Ac where
  number : Int
  title : List UInt8
  day : Int
  start : Sta
  items : List Itm
def Ac.cs (a : Ac) : List AV := [.int .i64 a.number, .str a.title, .int .i64 a.day, .int .i64 a.start.kind, .int .i64 a.start.day, .str a.start.event, .lst 25 (a.items.map Itm.cs)]
def Ac.few (a : Ac) : Bool := decide (a.items.length ≤ 40) && decide (a.title.length ≤ 300) && decide (a.start.event.length ≤ 100) && a.items.all Itm.few
section
variable (G : Glob)
theorem f40 (a : Ac) (hl : a.items.length < 9000000000000000000) (hf : ∀ x ∈ a.items, x.fit) : Pure G Tryz.prog 40 [.agg a.cs] (.bool a.few) := by
  refine Pure.w c40 fun R hR => ?_
  unfold s40 r40 Ac.cs
  (repeat' (first | (with_reducible (first | refine ae (fun h => ?_) (fun h => ?_) | refine ag (fun h => ?_) (fun h => ?_)) <;> (try simp only [Da, Db, Dc, Dw, De, Df, Dg, Dh] at h)) | (with_reducible refine ab (f7 G _ (hf _ hx.mem)) ?_) | simp only [EVz, seval, ↓reduceIte, EV6, EV7, hx.yes, hx.le0, hx.lt', hx.get, hx.row, hw] | simp only [EVz, seval, ↓reduceIte, EV6, EV7, hn] | simp only [EVz, seval, ↓reduceIte, EV6, EV7] | (refine af hx () ?_ (Weak.rfl' _ _)) | (refine Zq (a.items) (fun i r (c : Unit) => a.items.all Itm.few = r.all Itm.few) (fun i c => [(1, .ref [.int .i64 a.number, .str a.title, .int .i64 a.day, .int .i64 a.start.kind, .int .i64 a.start.day, .str a.start.event, .lst 25 (a.items.map Itm.cs)]), (3, .int .i64 i)]) (fun _ _ => []) () (by rfl) (Weak.rfl' _ _) (by omega) (fun i x r c hok hx hw => ?_) (fun c hok hn => ?_) ) | fail))
  (all_goals (first | (refine RET.eq hR ?_; (refine congrArg AV.bool (Bool.eq_iff_iff.2 ?_); simp only [Ac.few, EVB] at *; omega)) | (refine RET.eq hR ?_; first | (simp only [Ac.few, hok, h, EVC, decide_true, decide_false]; done) | (simp_all [Ac.few]; omega)) | (rw [hok]; simp only [Ac.few, h, EVC, decide_true, decide_false]; done)))
end
end Go.Av
end

section
namespace Go.Av
open Go Go.RowKit Go.Proofs
set_option linter.unusedSimpArgs false
set_option linter.unusedVariables false
def Ac.may (a : Ac) : Bool := inR a.number 1 1048576 && titleOk a.title && inR a.day 0 1048576 && startAct a.start && decide (a.items.length ≤ 32) && a.items.all Itm.may
section
variable (G : Glob)
end
end Go.Av
end

section
namespace Go.Av
open Go Go.RowKit Go.Proofs
set_option linter.unusedSimpArgs false
set_option linter.unusedVariables false

theorem Ev.belowK {σ : Store} {w w' : World} (h : Below w.heap.size w w') : Ev σ w σ w' :=
  let e := Ev.below h
  ⟨e.os, e.tape, e.output, e.size, fun b hb hn => ⟨(e.block b hb (by simp [Store.keys])).1, hn⟩, e.shape, fun a v hv hm => ⟨(e.cell a v hv (by rintro ⟨x, hx, _⟩; simp at hx)).1, hm⟩⟩
def Det (σ : Store) : Prop := ∀ b x, (b, x) ∈ σ → ∃ (e : TypeId) (vs : List Value), x = .cells e (vs.map AV.sc)
theorem RepL.scs {τ : Store} {w : World} : ∀ {vs us : List Value}, RepL τ w (vs.map AV.sc) us → us = vs
  | [], us, h => by simpa [RepL] using h
  | v :: vs, us, h => by
    simp only [List.map_cons, RepL] at h
    obtain ⟨u, us', rfl, h1, h2⟩ := h
    simp only [Rep] at h1
    rw [h1, RepL.scs h2]
theorem Det.keep {G : Glob} {σ ρ : Store} {w w' : World} (hd : Det σ) (h1 : Sat G (σ ++ ρ) w) (h2 : Sat G (σ ++ ρ) w') (ev : Ev σ w σ w') : Below w.heap.size w w' := by
  refine ⟨ev.os, ev.tape, ev.output, ev.size, fun k hk => ?_⟩
  by_cases hm : k ∈ σ.keys
  · obtain ⟨⟨b, x⟩, hx, rfl⟩ := List.mem_map.1 hm
    obtain ⟨e, vs, rfl⟩ := hd b x hx
    obtain ⟨us, g1, _, g2⟩ := h1.obj b _ (List.mem_append.2 (.inl hx))
    obtain ⟨us', k1, _, k2⟩ := h2.obj b _ (List.mem_append.2 (.inl hx))
    have e1 := RepL.scs g2
    have e2 := RepL.scs k2
    have : us = us' := by apply Array.ext'; rw [e1, e2]
    show w'.heap[b]? = w.heap[b]?
    rw [g1, k1, this]
  · exact (ev.block k hk hm).1
theorem aj.of_callsK {G : Glob} {P : Program} {k : FuncId} {fn : Func} {args : List AV} {r : AV} {σ : Store} (hf : P.funcs[k]? = some fn) (hn : (fn.name == "runtime.NumGoroutine") = false) (hb : fn.body.isNone = false)
    (h : ∀ (ρ : Store) (w : World) (vs : Array Value), Sat G (σ ++ ρ) w → RepL (σ ++ ρ) w args vs.toList → ∃ v, (∀ τ' w', Rep τ' w' r v) ∧ Calls P k vs w fun e w' => e = .returned v ∧ Below w.heap.size w w') : aj G P k args σ fun x σ' => x = r ∧ σ' = σ :=
  ⟨⟨fn, hf, hn, hb⟩, fun ρ w vs hS hA => by
    obtain ⟨v, hr, hc⟩ := h ρ w vs hS hA
    refine hc.mono ?_
    rintro e w' ⟨rfl, hB⟩
    exact ⟨v, r, σ, rfl, ⟨rfl, rfl⟩, Sat.below hS hB, Ev.belowK hB, hr _ _⟩⟩

section
variable (G : Glob)
theorem pred_growsK {g b : Nat} {p : Nat → Bool} {σ ρ : Store} {w : World} (hd : Det σ) (hS : Sat G (σ ++ ρ) w)
    (hg : ∀ n : Nat, aj G Tryz.prog g [.int .i32 (n : Int), .sc (.pointer (some ⟨b, 0, none⟩))] σ fun x σ' => x = .bool (p n) ∧ σ' = σ) : PredGrows Tryz.prog g #[.pointer (some ⟨b, 0, none⟩)] p w := fun W x hx hb => by
  have hSW := Sat.below hS hb
  have := (hg x).2 ρ W (#[encR x] ++ #[.pointer (some ⟨b, 0, none⟩)]) hSW (by simp [RepL, Rep])
  refine this.mono ?_
  rintro e w' ⟨v, r, σ', rfl, ⟨rfl, rfl⟩, hS2, ev, hr⟩
  simp only [Rep] at hr
  exact ⟨by rw [hr], hd.keep hSW hS2 ev⟩
theorem index_k (g b : Nat) (p : Nat → Bool) (s : List UInt8) {σ : Store} (hd : Det σ) (eg : ∀ args w, (callFunc g args).run Tryz.prog w = .ok (.enter g args) w) (hp : ∀ n, 128 ≤ n → p n = true)
    (hg : ∀ n : Nat, aj G Tryz.prog g [.int .i32 (n : Int), .sc (.pointer (some ⟨b, 0, none⟩))] σ fun x σ' => x = .bool (p n) ∧ σ' = σ) :
    aj G Tryz.prog 217 [.str s, .sc (.func (.func g) #[] #[.pointer (some ⟨b, 0, none⟩)])] σ fun x σ' => x = .int .i64 (idxF (fun c : UInt8 => p c.toNat) 0 s) ∧ σ' = σ := by
  refine aj.of_callsK Tryz.func217 (by kernel_rfl) (by kernel_rfl) fun ρ w vs hS hA => ?_
  obtain ⟨u, v, rfl, h1, h2⟩ := jD hA
  simp only [Rep] at h1 h2
  subst h1 h2
  refine ⟨.int .i64 (idxF (fun c : UInt8 => p c.toNat) 0 s), fun _ _ => by simp only [Rep], ?_⟩
  have h := Any.strings_IndexFunc_grows Tryz.laysGw15 g #[.pointer (some ⟨b, 0, none⟩)] eg p ⟨⟨s⟩⟩ w (pred_growsK G hd hS hg)
  have e : Lib.idxFunc p true ⟨⟨s⟩⟩ = idxF (fun c : UInt8 => p c.toNat) 0 s := fy p hp s s.length 0 (by omega) (by omega)
  rw [e] at h
  exact h

def fitN (n : Nat) : Bool := (decide ((97 : Int) ≤ n) && decide ((n : Int) ≤ 122)) || ((decide ((48 : Int) ≤ n) && decide ((n : Int) ≤ 57)) || decide ((n : Int) = 45))
theorem f216 (n : Nat) : Pure G Tryz.prog 216 [.int .i32 (n : Int)] (.bool (fitN n)) := by
  refine Pure.w c216 fun R hR => ?_
  unfold s216 r216
  (repeat' (first | (with_reducible (refine ag (fun h => ?_) (fun h => ?_)) <;> (try simp only [Da, Db, Dc, Dw, De, Df, Dg, Dh] at h)) | simp only [EVz, seval, ↓reduceIte, EV6, EV7] | (exfalso; omega) | fail))
  (all_goals (((refine RET.eq hR ?_; (refine congrArg AV.bool (Bool.eq_iff_iff.2 ?_); simp only [fitN, EVB] at *; omega)))))
def fitS (b : Nat) : Store := [(b, .cells 180 [.sc (.func (.func 216) #[] #[])])]
theorem fitS_det (b : Nat) : Det (fitS b) := fun b' x hx => by
  simp only [fitS, List.mem_singleton, Prod.mk.injEq] at hx
  exact ⟨_, [.func (.func 216) #[] #[]], hx.2⟩
end
end Go.Av
end

section
namespace Go.Av
open Go Go.RowKit Go.Proofs
set_option linter.unusedSimpArgs false
set_option linter.unusedVariables false

section
variable (G : Glob)
theorem f100k (σ : Store) (f : Value) (p : Itm → Bool) (l : List Itm) (hl : l.length < 9000000000000000000) (hf : ∀ x ∈ l, cZ G Tryz.prog f [.agg x.cs] σ fun r σ' => r = .bool (p x) ∧ σ' = σ) :
    aj G Tryz.prog 100 [.lst 25 (l.map Itm.cs), .sc f] σ fun r σ' => r = .int .i64 (idxF p 0 l) ∧ σ' = σ := by
  refine aj.wk c100 fun R hR => ?_
  unfold s100 r100
  (repeat' (first | (with_reducible (refine ae (fun h => ?_) (fun h => ?_)) <;> (try simp only [Da, Db, Dc, Dw, De, Df, Dg, Dh] at h)) | simp only [EVz, seval, ↓reduceIte, EV6, EV7, hx.yes, hx.le0, hx.lt', hx.get, hx.row, hw] | simp only [EVz, seval, ↓reduceIte, EV6, EV7, hn] | simp only [EVz, seval, ↓reduceIte, EV6, EV7] | (refine af hx () ?_ (Weak.rfl' _ _)) | (refine Zq l (fun i r (c : Unit) => idxF p 0 l = idxF p i r) (fun i c => [(0, .lst 25 (l.map Itm.cs)), (1, .sc f), (7, .int .i64 l.length), (8, .int .i64 i)]) (fun _ _ => σ) () rfl (Weak.rfl' _ _) (by omega) (fun i x r c hok hx hw => ?_) (fun c hok hn => ?_)) | (refine eK (hf _ hx.mem) ?_) | fail))
  · refine hR _ _ (.inl (.inl ?_)) (SubN.refl _)
    rw [hok, idxF, if_pos h]
  · rw [hok, idxF, h]; rfl
  · refine hR _ _ (.inl (.inl ?_)) (SubN.refl _)
    rw [hok]; rfl
theorem f56k (σ : Store) (f : Value) (p : Itm → Bool) (l : List Itm) (hl : l.length < 9000000000000000000) (hf : ∀ x ∈ l, cZ G Tryz.prog f [.agg x.cs] σ fun r σ' => r = .bool (p x) ∧ σ' = σ) :
    aj G Tryz.prog 56 [.lst 25 (l.map Itm.cs), .sc f] σ fun r σ' => r = .bool (l.any p) ∧ σ' = σ := by
  refine aj.wk c56 fun R hR => ?_
  unfold s56 r56
  have hI := f100k G σ f p l hl hf
  (repeat' (first | simp only [EVz, seval, ↓reduceIte, EV6, EV7] | (refine eK hI.v ?_) | fail))
  exact hR _ _ (.inl (.inl (by rw [eE]))) (SubN.refl _)
end
end Go.Av
end

section
namespace Go.Av
open Go Go.RowKit Go.Proofs
set_option linter.unusedSimpArgs false
set_option linter.unusedVariables false

theorem fit_ch (c : UInt8) : fitN c.toNat = eB c := by
  unfold fitN eB je fI
  rfl
theorem idxF_lt {α : Type} (p : α → Bool) (l : List α) : decide (idxF p 0 l < 0) = l.all fun x => !p x := by
  have h := eE p l 0
  have e : decide (idxF p 0 l < 0) = !decide (0 ≤ idxF p 0 l) := by rw [Bool.eq_iff_iff]; simp
  rw [e, h, List.not_any_eq_all_not]
def fromDay : List UInt8 := [102, 114, 111, 109, 32, 100, 97, 121, 32]
def byOrder : List UInt8 := [98, 121, 32, 111, 114, 100, 101, 114]
def onEvent : List UInt8 := [111, 110, 32, 101, 118, 101, 110, 116, 32]
def beginT (s : Sta) : List UInt8 :=
  if decide (s.kind = 1) && (inR s.day 0 1048576 && decide (s.event = [])) then fromDay ++ Lib.itoa s.day
  else if decide (s.kind = 2) && (decide (s.day = 0) && decide (s.event = [])) then byOrder
  else if decide (s.kind = 3) && (decide (s.day = 0) && d9 s.event) then onEvent ++ s.event else []
theorem beginT_ne (s : Sta) : decide (beginT s ≠ []) = startAct s := by
  unfold beginT startAct
  generalize inR s.day 0 1048576 = q1
  generalize d9 s.event = q2
  by_cases h1 : s.kind = 1
  · have h2 : ¬ s.kind = 2 := by omega
    have h3 : ¬ s.kind = 3 := by omega
    simp [h1, h2, h3]
    cases q1 <;> by_cases he : s.event = [] <;> simp [he, fromDay]
  · by_cases h2 : s.kind = 2
    · have h3 : ¬ s.kind = 3 := by omega
      simp [h1, h2, h3]
      by_cases h4 : s.day = 0 <;> by_cases he : s.event = [] <;> simp [h4, he, byOrder]
    · by_cases h3 : s.kind = 3
      · simp [h1, h2, h3]
        by_cases h4 : s.day = 0 <;> cases q2 <;> simp [h4, onEvent]
      · simp [h1, h2, h3]

section
variable (G : Glob)
theorem f218 (b n : Nat) : aj G Tryz.prog 218 [.int .i32 (n : Int), .sc (.pointer (some ⟨b, 0, none⟩))] (fitS b) fun x σ' => x = .bool (!fitN n) ∧ σ' = fitS b := by
  have h1 := f216 G n
  refine aj.wk c218 fun R hR => ?_
  unfold s218 r218 fitS
  (repeat' (first | (with_reducible refine ab (h1) ?_) | simp only [EVz, seval, ↓reduceIte, EV6, EV7] | fail))
  exact hR _ _ (AVle.rfl' _) (SubN.refl _)
theorem f164 (s : List UInt8) : Pure G Tryz.prog 164 [.str s] (.bool (d9 s)) := by
  have hI : ∀ b, aj G Tryz.prog 217 _ (fitS b) _ := fun b => index_k G 218 b (fun n => !fitN n) s (fitS_det b) (enters_of Tryz.func218 (by kernel_rfl) rfl) (fun n hn => by simp [fitN]; omega) (fun n => f218 G b n)
  unfold fitS at hI
  have e1 : decide (idxF (fun c : UInt8 => !fitN c.toNat) 0 s < 0) = s.all eB := by
    rw [idxF_lt]
    simp only [Bool.not_not, fit_ch]
  refine Pure.w c164 fun R hR => ?_
  unfold s164 r164
  (repeat' (first | (with_reducible (refine ag (fun h => ?_) (fun h => ?_)) <;> (try simp only [Da, Db, Dc, Dw, De, Df, Dg, Dh] at h)) | (with_reducible refine And.intro (by omega) ?_) | simp only [EVz, seval, ↓reduceIte, EV6, EV7, e1] | (with_reducible intro blk hblk; (try (have hnx := hblk; simp only [EVK] at hnx; (have hne := hnx)))) | (refine eK (hI _).v ?_) | fail))
  (all_goals (first | (refine RET.eq hR ?_; (refine congrArg AV.bool (Bool.eq_iff_iff.2 ?_); simp only [d9, je, EVB] at *; omega)) | (refine RET.eq hR ?_; ((simp_all [d9, je]; done)))))

set_option maxRecDepth 100000 in
theorem f99 (hG : GOk2 G) (s : Sta) (he : s.event.length < 1000000000000000000) : Pure G Tryz.prog 99 [.agg [.int .i64 s.kind, .int .i64 s.day, .str s.event]] (.str (beginT s)) := by
  have hN := f164 G s.event
  refine Pure.w c99 fun R hR => ?_
  unfold s99 r99
  unfold beginT at hR
  cases hd : inR s.day 0 1048576 with
  | true =>
    have hd2 := hd
    unfold inR at hd2
    simp only [Bool.and_eq_true, decide_eq_true_eq] at hd2
    have hi := f163 G hG s.day (by omega) (by omega)
    have hil := Lib.itoa_length_le s.day (by omega) (by omega)
    (repeat' (first | (with_reducible (first | refine ae (fun h => ?_) (fun h => ?_) | refine ag (fun h => ?_) (fun h => ?_)) <;> (try simp only [Da, Db, Dc, Dw, De, Df, Dg, Dh] at h)) | (with_reducible refine And.intro (by omega) ?_) | (with_reducible refine ab (f98 G _) ?_) | (with_reducible refine ab (hN) ?_) | (with_reducible refine ab (hi) ?_) | simp only [EVz, seval, ↓reduceIte, EV6, EV7, hd] | (exfalso; omega) | fail))
    (all_goals (((refine RET.eq hR ?_; ((simp_all [fromDay, byOrder, onEvent]; done))))))
  | false =>
    (repeat' (first | (with_reducible (first | refine ae (fun h => ?_) (fun h => ?_) | refine ag (fun h => ?_) (fun h => ?_)) <;> (try simp only [Da, Db, Dc, Dw, De, Df, Dg, Dh] at h)) | (with_reducible refine And.intro (by omega) ?_) | (with_reducible refine ab (f98 G _) ?_) | (with_reducible refine ab (hN) ?_) | simp only [EVz, seval, ↓reduceIte, EV6, EV7, hd] | (exfalso; omega) | fail))
    (all_goals (((refine RET.eq hR ?_; ((simp_all [fromDay, byOrder, onEvent]; done))))))

variable (hG : GOk G)
include hG
theorem f96 (x : Itm) (hs : x.Shorts) : Pure G Tryz.prog 96 [.agg x.cs] (.bool (!x.may)) := by
  refine Pure.w c96 fun R hR => ?_
  unfold s96 r96
  (repeat' (first | (with_reducible refine ab (f35 G hG x hs) ?_) | simp only [EVz, seval, ↓reduceIte, EV6, EV7] | fail))
  (all_goals ((exact RET.eq hR rfl)))
theorem f55 (hG2 : GOk2 G) (a : Ac) (ht : a.title.length < 4294967281) (he : a.start.event.length < 1000000000000000000) (hl : a.items.length < 9000000000000000000) (hs : ∀ x ∈ a.items, x.Shorts) : Pure G Tryz.prog 55 [.agg a.cs] (.bool a.may) := by
  have hT := f97 G hG2 a.title ht
  have hB := f99 G hG2 a.start he
  have hC : Pure G Tryz.prog _ _ _ := f56k G [] (.func (.func 96) #[] #[]) (fun x => !x.may) a.items hl (fun x hx => (f96 G hG x (hs x hx)).v)
  have e1 := beginT_ne a.start
  refine Pure.w c55 fun R hR => ?_
  unfold s55 r55 Ac.cs
  unfold Ac.may at hR
  generalize titleOk a.title = q1 at *
  generalize startAct a.start = q2 at *
  (repeat' (first | (with_reducible (refine ag (fun h => ?_) (fun h => ?_)) <;> (try simp only [Da, Db, Dc, Dw, De, Df, Dg, Dh] at h)) | (with_reducible refine ab (hT) ?_) | (with_reducible refine ab (f98 G _) ?_) | (with_reducible refine ab (hB) ?_) | (with_reducible refine ab (hC) ?_) | simp only [EVz, seval, ↓reduceIte, EV6, EV7, e1, ib] | fail))
  (all_goals (first | (refine RET.eq hR ?_; (refine congrArg AV.bool (Bool.eq_iff_iff.2 ?_); simp only [inR, EVB] at *; omega)) | (refine RET.eq hR ?_; first | (simp_all [inR]; done) | (simp_all [inR]; omega))))
end
end Go.Av
end

section
namespace Go.Av
open Go Go.RowKit Go.Proofs
set_option linter.unusedSimpArgs false
set_option linter.unusedVariables false

def tMissing : List UInt8 := [110, 111, 32, 115, 117, 99, 104, 32, 105, 116, 101, 109]
def tNotAm : List UInt8 := [110, 111, 116, 32, 97, 110, 32, 97, 109, 101, 110, 100, 109, 101, 110, 116]
def tDup : List UInt8 := [100, 117, 112, 108, 105, 99, 97, 116, 101]
def ownB (a : Ac) (x : Itm) : Bool := (decide (x.kind = 7) || (decide (x.kind = 8) || (decide (x.kind = 9) || decide (x.kind = 11)))) && decide (x.act = a.number)
def misB (a : Ac) (x : Itm) : Bool := decide ((a.items.length : Int) ≤ x.item)
def notB (a : Ac) (x : Itm) : Bool := decide (0 ≤ x.item) && !inR (a.items.getD x.item.toNat iz).kind 0 6
def ownF (a : Ac) (x : Itm) : List Fnd := if ownB a x then (if misB a x then [fw 4 tMissing] else optF (notB a x) (fw 9 tNotAm)) else []
def dupB (a : Ac) (i : Nat) (x : Itm) : Bool := (a.items.take i).any fun y => decide (y = x)
def Ac.fnds (a : Ac) (i : Nat) (x : Itm) : List Fnd := x.finds ++ (optF (dupB a i x) (fw 5 tDup) ++ ownF a x)
def Fnd.put (n : Int) (f : Fnd) : Fnd := { f with at_ := n }
def Ac.chkFrom (a : Ac) : Nat → List Itm → List Fnd
  | _, [] => []
  | i, x :: r => (a.fnds i x).map (Fnd.put i) ++ a.chkFrom (i + 1) r
def actFnd0 : Fnd := ⟨-1, ⟨0, 0, 0⟩, 1, [97, 99, 116]⟩
def Ac.chk (a : Ac) : List Fnd := if a.may then a.chkFrom 0 a.items else [actFnd0]
theorem ownF_len (a : Ac) (x : Itm) : (ownF a x).length ≤ 1 := by unfold ownF optF; split <;> (try split) <;> (try split) <;> simp
end Go.Av
end

section
namespace Go.Av
open Go Go.RowKit Go.Proofs
set_option linter.unusedSimpArgs false
set_option linter.unusedVariables false

def ownP (a : Ac) (x : Itm) : Fnd × Bool := if ownB a x then (if misB a x then (fw 4 tMissing, true) else if notB a x then (fw 9 tNotAm, true) else (fw 0 [], false)) else (fw 0 [], false)
theorem ownP_F (a : Ac) (x : Itm) : ownF a x = optF (ownP a x).2 (ownP a x).1 := by
  unfold ownF ownP
  split <;> (try split) <;> (try split) <;> simp_all [optF]
theorem itm_getD (l : List Itm) (n : Int) (h0 : 0 ≤ n) (h1 : n < l.length) : (l.map Itm.cs).getD n.toNat [] = (l.getD n.toNat iz).cs := by
  have h : n.toNat < l.length := by omega
  simp [List.getD, h]

section
variable (G : Glob)
theorem f59 (a : Ac) (x : Itm) (hl : a.items.length < 9000000000000000000) : Pure G Tryz.prog 59 [.agg a.cs, .agg x.cs] (.tup [.agg (ownP a x).1.cs, .bool (ownP a x).2]) := by
  have hN := f104 G x.kind
  have hb : ownB a x = ((decide (x.kind = 7) || decide (x.kind = 8) || decide (x.kind = 9) || decide (x.kind = 11)) && decide (x.act = a.number)) := by unfold ownB; simp only [Bool.or_assoc]
  unfold ownP at *
  rw [hb]
  generalize (decide (x.kind = 7) || decide (x.kind = 8) || decide (x.kind = 9) || decide (x.kind = 11)) = q at *
  refine Pure.w c59 fun R hR => ?_
  unfold s59 r59 Ac.cs
  unfold notB misB at hR
  by_cases h0 : 0 ≤ x.item
  · have e0 : decide (0 ≤ x.item) = true := decide_eq_true h0
    by_cases h1 : x.item < a.items.length
    · have e1 : decide ((a.items.length : Int) ≤ x.item) = false := decide_eq_false (by omega)
      have hg := itm_getD a.items x.item h0 h1
      rw [e0, e1] at hR
      generalize a.items.getD x.item.toNat iz = y at *
      have hI := f68 G y.kind
      generalize inR y.kind 0 6 = q2 at *
      (repeat' (first | (with_reducible (first | refine ae (fun h => ?_) (fun h => ?_) | refine ag (fun h => ?_) (fun h => ?_)) <;> (try simp only [Da, Db, Dc, Dw, De, Df, Dg, Dh] at h)) | (with_reducible refine And.intro (by omega) ?_) | (with_reducible refine ab (hN) ?_) | (with_reducible refine ab (hI) ?_) | simp only [EVz, seval, ↓reduceIte, EV6, EV7, hg] | (with_reducible intro blk hblk; (try (have hnx := hblk; simp only [EVK] at hnx; (have hne := hnx)))) | (exfalso; omega) | fail))
      all_goals (refine hR _ _ (Or.inl (Or.inl ?_)))
      all_goals (clear hR; simp_all [fw, Fnd.cs, tMissing, tNotAm]; done)
    · have e1 : decide ((a.items.length : Int) ≤ x.item) = true := decide_eq_true (by omega)
      rw [e0, e1] at hR
      (repeat' (first | (with_reducible (first | refine ae (fun h => ?_) (fun h => ?_) | refine ag (fun h => ?_) (fun h => ?_)) <;> (try simp only [Da, Db, Dc, Dw, De, Df, Dg, Dh] at h)) | (with_reducible refine And.intro (by omega) ?_) | (with_reducible refine ab (hN) ?_) | simp only [EVz, seval, ↓reduceIte, EV6, EV7] | (with_reducible intro blk hblk; (try (have hnx := hblk; simp only [EVK] at hnx; (have hne := hnx)))) | (exfalso; omega) | fail))
      all_goals (refine hR _ _ (Or.inl (Or.inl ?_)))
      all_goals (clear hR; simp_all [fw, Fnd.cs, tMissing, tNotAm]; done)
  · have e0 : decide (0 ≤ x.item) = false := decide_eq_false h0
    have e1 : decide ((a.items.length : Int) ≤ x.item) = false := decide_eq_false (by omega)
    rw [e0, e1] at hR
    (repeat' (first | (with_reducible (first | refine ae (fun h => ?_) (fun h => ?_) | refine ag (fun h => ?_) (fun h => ?_)) <;> (try simp only [Da, Db, Dc, Dw, De, Df, Dg, Dh] at h)) | (with_reducible refine And.intro (by omega) ?_) | (with_reducible refine ab (hN) ?_) | simp only [EVz, seval, ↓reduceIte, EV6, EV7] | (with_reducible intro blk hblk; (try (have hnx := hblk; simp only [EVK] at hnx; (have hne := hnx)))) | (exfalso; omega) | fail))
    all_goals (refine hR _ _ (Or.inl (Or.inl ?_)))
    all_goals (clear hR; simp_all [fw, Fnd.cs, tMissing, tNotAm]; done)
end
end Go.Av
end

section
namespace Go.Av
open Go Go.RowKit Go.Proofs
set_option linter.unusedSimpArgs false
set_option linter.unusedVariables false

theorem fnds_len (a : Ac) (i : Nat) (x : Itm) : (a.fnds i x).length ≤ 12 := by
  unfold Ac.fnds
  have h1 := qQ x
  have h2 := o8 (dupB a i x) (fw 5 tDup)
  have h3 := ownF_len a x
  simp only [List.length_append]
  omega
theorem chkFrom_len (a : Ac) : ∀ (l : List Itm) (i : Nat), (a.chkFrom i l).length ≤ 12 * l.length
  | [], i => by simp [Ac.chkFrom]
  | x :: r, i => by
    have h1 := fnds_len a i x
    have h2 := chkFrom_len a r (i + 1)
    simp only [Ac.chkFrom, List.length_append, List.length_map, List.length_cons]
    omega
theorem put_cs (n : Int) (f : Fnd) : (f.put n).cs = [.int .i64 n, .int .i64 f.id.act, .int .i64 f.id.item, .int .i64 f.id.n, .int .i64 f.why, .str f.text] := rfl
theorem tok_apart {d : Option Nat} {e : TypeId} {m : Nat} {τ : Store} (h : Store.keys (tokS d e m ++ τ) |>.Nodup) : ∀ q, d = some q → q ∉ τ.keys := by
  rintro q rfl hm
  rw [aA] at h
  exact (List.nodup_append.1 h).2.2 q (by simp [tokS, Store.keys]) q hm rfl
theorem tok_new {g : Option Nat} {κ : Store} {b : Nat} {y : AObj} {e : TypeId} {m : Nat} (hg : ∀ q, g = some q → q ∉ κ.keys) (hb : b ∉ Store.keys (κ ++ tokS g e m)) : ∀ q, g = some q → q ∉ Store.keys ((b, y) :: κ) := by
  rintro q rfl hm
  rcases List.mem_cons.1 hm with h | h
  · subst h
    exact hb (by rw [aA]; exact List.mem_append.2 (.inr (by simp [tokS, Store.keys])))
  · exact hg q rfl h
theorem W_seq_join2 {G : Glob} {P : Program} {a b : SCode} {Q : Exit → Env → Store → Prop} {tQ : Tag Q} {env : Env} {σ : Store} {ι : Type} (ok : ι → Prop) (st : ι → Env) (ext : ι → Env) (ss : ι → Store)
    (he : ∀ j, ok j → W G P b Q (st j) (ss j) ⟨⟩ → W G P b Q (st j ++ ext j) (ss j) ⟨⟩) (hb : ∀ j, ok j → W G P b Q (st j) (ss j) ⟨⟩)
    (ha : ∀ K : Env → Store → Prop, (∀ j, ok j → K (st j) (ss j)) → (∀ j, ok j → K (st j ++ ext j) (ss j)) → W G P a (NR K Q ⟨⟩ ⟨⟩) env σ ⟨⟩) : W G P (.seq a b) Q env σ tQ :=
  ha (fun env σ => W G P b Q env σ ⟨⟩) hb fun j hj => he j hj (hb j hj)
theorem W_assoc {G : Glob} {P : Program} {a b c : SCode} {Q : Exit → Env → Store → Prop} {tQ : Tag Q} {env : Env} {σ : Store} : W G P (.seq a (.seq b c)) Q env σ tQ = W G P (.seq (.seq a b) c) Q env σ ⟨⟩ := by
  simp only [W_seq]
  refine congrArg (fun q => W G P a q env σ ⟨⟩) ?_
  funext e env σ
  cases e <;> rfl
theorem W_stop1 {G : Glob} {P : Program} {R C A B X r r2 : SCode} {i : Nat} {Q : Exit → Env → Store → Prop} {tQ : Tag Q} {env : Env} {σ : Store}
    (h : ∀ Y, Y = X → W G P (.seq R (.seq C (.seq (.seq (.block i (.seq A (.seq B Y))) r) r2))) Q env σ ⟨⟩) : W G P (.seq R (.seq C (.seq (.seq (.block i (.seq A (.seq B X))) r) r2))) Q env σ tQ := h X rfl

section
variable (G : Glob)
theorem f57 (b : Nat) (x y : Itm) (hf : y.fit) : aj G Tryz.prog 57 [.agg y.cs, .sc (.pointer (some ⟨b, 0, none⟩))] [(b, .cells 34 x.cs)] fun r σ' => r = .bool (decide (y = x)) ∧ σ' = [(b, .cells 34 x.cs)] := by
  have h1 := f58 G y hf x
  refine aj.wk c57 fun R hR => ?_
  unfold s57 r57
  (repeat' (first | (with_reducible (first | refine ae (fun h => ?_) (fun h => ?_) | refine ag (fun h => ?_) (fun h => ?_) | refine aa (fun h => ?_) (fun h => ?_)) <;> (try simp only [Da, Db, Dc, Dw, De, Df, Dg, Dh] at h)) | (with_reducible refine And.intro (by omega) ?_) | (with_reducible refine ab (h1) ?_) | simp only [EVz, seval, ↓reduceIte, EV6, EV7] | (with_reducible intro blk hblk; (try (have hnx := hblk; simp only [EVK] at hnx; first | (have hne := And.intro hnx hne) | (have hne := hnx)))) | (with_reducible refine ak ?_ ?_) | (with_reducible refine am ?_) | (exfalso; omega)))
  exact hR _ _ (AVle.rfl' _) (SubN.refl _)

variable (hG : GOk G)
include hG
set_option maxHeartbeats 4000000 in
set_option maxRecDepth 100000 in
theorem f33 (hG2 : GOk2 G) (a : Ac) (ht : a.title.length < 4294967281) (he : a.start.event.length < 1000000000000000000) (hl : a.items.length < 9000000000000000000) (hs : ∀ x ∈ a.items, x.Shorts) : Pure G Tryz.prog 33 [.agg a.cs] (.lst 6 (a.chk.map Fnd.cs)) := by
  have hV := f55 G hG hG2 a ht he hl hs
  refine Pure.w c33 fun R hR => ?_
  unfold s33 r33
  unfold Ac.chk at hR
  unfold Ac.cs at hV ⊢
  cases hm : a.may with
  | false =>
    rw [hm] at hV hR
    (repeat' (first | (with_reducible (first | refine ae (fun h => ?_) (fun h => ?_) | refine ag (fun h => ?_) (fun h => ?_) | refine aa (fun h => ?_) (fun h => ?_)) <;> (try simp only [Da, Db, Dc, Dw, De, Df, Dg, Dh] at h)) | (with_reducible refine And.intro (by omega) ?_) | (with_reducible refine ab (hV) ?_) | simp only [EVz, seval, ↓reduceIte, EV6, EV7] | (with_reducible intro blk hblk; (try (have hnx := hblk; simp only [EVK] at hnx; first | (have hne := And.intro hnx hne) | (have hne := hnx)))) | (with_reducible refine ak ?_ ?_) | (with_reducible refine am ?_) | (refine ⟨[actFnd0.cs], rfl, (by simp [actFnd0, Fnd.cs]), rfl, ?_⟩) | (exfalso; omega)))
    exact hR _ _ (Or.inl (Or.inr ⟨rfl, rfl⟩))
  | true =>
    rw [hm] at hV
    rw [hm, if_pos rfl] at hR
    have hlen : a.items.length ≤ 32 := by
      unfold Ac.may at hm
      simp only [Bool.and_eq_true, decide_eq_true_eq] at hm
      exact hm.1.2
    (repeat' (first | (with_reducible (first | refine ae (fun h => ?_) (fun h => ?_) | refine ag (fun h => ?_) (fun h => ?_) | refine aa (fun h => ?_) (fun h => ?_)) <;> (try simp only [Da, Db, Dc, Dw, De, Df, Dg, Dh] at h)) | (with_reducible refine And.intro (by omega) ?_) | (with_reducible refine ab (hV) ?_) | simp only [EVz, seval, ↓reduceIte, EV6, EV7] | (with_reducible intro blk hblk; (try (have hnx := hblk; simp only [EVK] at hnx; first | (have hne := And.intro hnx hne) | (have hne := hnx)))) | (with_reducible refine ak ?_ ?_) | (with_reducible refine am ?_) | (exfalso; omega)))
    refine Zq (ι := Option Nat × List Fnd) a.items (fun i r c => a.chkFrom 0 a.items = c.2 ++ a.chkFrom i r) (fun i c => [(1, .ref [.int .i64 a.number, .str a.title, .int .i64 a.day, .int .i64 a.start.kind, .int .i64 a.start.day, .str a.start.event, .lst 25 (a.items.map Itm.cs)]), (3, .own c.1 50 6 (c.2.map Fnd.cs)), (17, .lst 25 (a.items.map Itm.cs)), (18, .int .i64 a.items.length), (19, .int .i64 i)])
      (fun i c => tokS c.1 50 (c.2.length * 6)) (none, []) rfl (Weak.of (by simp [cQ, Env.get, AVle, aP]) (SubN.refl _)) (by omega) (fun i x r c hok hx hw => ?_) (fun c hok hn => ?_)
    · have hI := f13o G hG x (hs x hx.mem)
      refine W_stop1 fun Y hY => ?_
      (try simp only [EVz, seval, ↓reduceIte, EV6, EV7, hx.yes, hx.le0, hx.lt', hx.row, hw, hx.get])
      intro b5 hb5
      (try simp only [EVz, seval, ↓reduceIte, EV6, EV7, hx.yes, hx.le0, hx.lt', hx.row, hw, hx.get])
      refine az [] _ hI.v (aB.rfl' _) (SubN.refl _) ?_
      rintro _ _ ⟨d, rfl, rfl⟩ hnd
      (try simp only [EVz, seval, ↓reduceIte, EV6, EV7, hx.yes, hx.le0, hx.lt', hx.row, hw, hx.get])
      subst hY
      simp only [List.length_map] at hnd
      have hdk : ∀ q, d = some q → q ∉ Store.keys ((b5, AObj.cells 34 x.cs) :: tokS c.1 50 (c.2.length * 6)) := fun q hq hm => tok_apart hnd q hq hm
      have hE := f56k G [(b5, .cells 34 x.cs)] (.func (.func 57) #[] #[.pointer (some ⟨b5, 0, none⟩)]) (fun y => decide (y = x)) (a.items.take i) (by rw [List.length_take]; omega)
        (fun y hy => ⟨_, _, _, rfl, f57 G b5 x y (((Itm.Shorts_eq y).1 (hs y (List.mem_of_mem_take hy))).1.fit)⟩)
      have hdup : (a.items.take i).any (fun y => decide (y = x)) = dupB a i x := rfl
      rw [hdup, List.map_take] at hE
      have hO := f59 G a x (by omega)
      unfold Ac.cs at hO
      obtain ⟨F1, hF1⟩ : ∃ F, F = x.finds ++ optF (dupB a i x) (fw 5 tDup) := ⟨_, rfl⟩
      have hfl := qQ x
      have hF2 : a.fnds i x = F1 ++ optF (ownP a x).2 (ownP a x).1 := by rw [hF1, ← ownP_F]; unfold Ac.fnds; rw [List.append_assoc]
      have hF1l : F1.length ≤ 11 := by rw [hF1, List.length_append]; have := o8 (dupB a i x) (fw 5 tDup); omega
      have hfn := fnds_len a i x
      have hcl : c.2.length ≤ 384 := by
        have h1 := congrArg List.length hok
        have h2 := chkFrom_len a a.items 0
        rw [List.length_append] at h1
        omega
      rcases hp : ownP a x with ⟨f, o⟩
      rw [hp] at hO hF2
      simp only at hO hF2
      rw [W_assoc]
      refine W_seq_join2 (ι := Nat × Option Nat) (fun j => True)
        (fun j => [(1, .ref [.int .i64 a.number, .str a.title, .int .i64 a.day, .int .i64 a.start.kind, .int .i64 a.start.day, .str a.start.event, .lst 25 (a.items.map Itm.cs)]), (3, .own c.1 50 6 (c.2.map Fnd.cs)), (17, .lst 25 (a.items.map Itm.cs)), (18, .int .i64 a.items.length), (19, .int .i64 i), (4, .int .i64 i), (6, .own j.2 50 6 ((a.fnds i x).map Fnd.cs))])
        (fun j => [(7, .sc (.pointer (some ⟨j.1, 0, none⟩))), (42, .bool false)])
        (fun j => (j.1, AObj.cells 50 f.cs) :: (b5, AObj.cells 34 x.cs) :: (tokS c.1 50 (c.2.length * 6) ++ tokS j.2 50 ((a.fnds i x).length * 6))) ?_ ?_ ?_
      · intro j _ h
        (try simp only [EVz, seval, ↓reduceIte, EV6, EV7, hw, List.cons_append, List.nil_append])
        (try simp only [EVz, seval, ↓reduceIte, EV6, EV7, hw] at h)
        exact h
      · intro j _
        (try simp only [EVz, seval, ↓reduceIte, EV6, EV7, hw])
        refine Zq (ι := Option Nat × List Fnd) (a.fnds i x) (fun k r e => c.2 ++ (a.fnds i x).map (Fnd.put i) = e.2 ++ r.map (Fnd.put i)) (fun k e => [(1, .ref [.int .i64 a.number, .str a.title, .int .i64 a.day, .int .i64 a.start.kind, .int .i64 a.start.day, .str a.start.event, .lst 25 (a.items.map Itm.cs)]), (3, .own e.1 50 6 (e.2.map Fnd.cs)), (17, .lst 25 (a.items.map Itm.cs)), (18, .int .i64 a.items.length), (19, .int .i64 i), (4, .int .i64 i), (47, .lst 6 ((a.fnds i x).map Fnd.cs)), (48, .int .i64 (a.fnds i x).length), (49, .int .i64 k)])
          (fun k e => tokS e.1 50 (e.2.length * 6)) (c.1, c.2) rfl (Weak.of (by simp [cQ, Env.get, AVle, aP]) ((SubN.appL.tail _).tail _)) (by omega) (fun k y r2 e hok2 hy hwk => ?_) (fun e hok2 hnk => ?_)
        · have h12 := congrArg List.length hok2
          simp only [List.length_append, List.length_map, List.length_cons] at h12
          (try simp only [EVz, seval, ↓reduceIte, EV6, EV7, hy.yes, hy.le0, hy.lt', hy.row, hwk, hy.get])
          intro b10 hb10
          (try simp only [EVz, seval, ↓reduceIte, EV6, EV7, hy.yes, hy.le0, hy.lt', hy.row, hwk, hy.get])
          intro blk hblk
          refine cV (n := e.2.length) (m' := (e.2.length + 1) * 6) (bT (by assumption)) (by simp) rfl rfl rfl (by assumption) (by omega) (fun gn => ?_)
          refine af hy (gn, e.2 ++ [y.put i]) ?_ ?_
          · rw [hok2]; simp
          · simp only [List.map_append, List.map_cons, List.map_nil, put_cs, List.length_append, List.length_cons, List.length_nil, Nat.zero_add]; exact Weak.rfl' _ _
        · (try simp only [EVz, seval, ↓reduceIte, EV6, EV7, hnk, hw])
          refine af hx (e.1, e.2) ?_ (Weak.rfl' _ _)
          rw [hok, Ac.chkFrom, ← List.append_assoc, hok2]
          simp
      · intro K hK hK2
        (try simp only [EVz, seval, ↓reduceIte, EV6, EV7, hw])
        refine ⟨by omega, by have := hx.lt; omega, ?_⟩
        refine bg [(b5, .cells 34 x.cs)] (tokS c.1 50 (c.2.length * 6) ++ tokS d 50 (x.finds.length * 6)) hE.v (aB.rfl' _) (SubN.perm (List.perm_append_comm (l₁ := (b5, AObj.cells 34 x.cs) :: tokS c.1 50 (c.2.length * 6)) (l₂ := tokS d 50 (x.finds.length * 6)))) ?_
        rintro _ _ ⟨rfl, rfl⟩
        cases hdb : dupB a i x with
        | false =>
          rw [hdb] at hF1
          simp only [optF, Bool.false_eq_true, if_false, List.append_nil] at hF1
          have hrow : x.finds = F1 := hF1.symm
          (try simp only [EVz, seval, ↓reduceIte, EV6, EV7, hw, hrow])
          refine ab hO ?_
          (try simp only [EVz, seval, ↓reduceIte, EV6, EV7, hw])
          intro b7 hb7
          (try simp only [EVz, seval, ↓reduceIte, EV6, EV7, hw])
          cases o with
          | false =>
            have e : a.fnds i x = F1 := by rw [hF2]; simp [optF]
            (try simp only [EVz, seval, ↓reduceIte, EV6, EV7, hw])
            have h := hK2 (b7, d) trivial
            rw [e] at h
            simpa only [fnd_cs, List.cons_append, List.nil_append] using h
          | true =>
            have e : a.fnds i x = F1 ++ [f] := by rw [hF2]; simp [optF]
            (try simp only [EVz, seval, ↓reduceIte, EV6, EV7, hw])
            intro blk2 hblk2
            (try simp only [EVz, seval, ↓reduceIte, EV6, EV7, hw])
            refine dr ((b7, AObj.cells 50 [.int .i64 f.at_, .int .i64 f.id.act, .int .i64 f.id.item, .int .i64 f.id.n, .int .i64 f.why, .str f.text]) :: (b5, AObj.cells 34 x.cs) :: tokS c.1 50 (c.2.length * 6)) (n := F1.length) (m' := (F1.length + 1) * 6) rfl (tok_new hdk hb7) (by simp) rfl rfl rfl hblk2 (by omega) (fun g2 hg2 => ?_)
            (try simp only [EVz, seval, ↓reduceIte, EV6, EV7, hw])
            have h := hK (b7, g2) trivial
            rw [e] at h
            simpa only [List.map_append, List.map_cons, List.map_nil, fnd_cs, List.length_append, List.length_cons, List.length_nil, Nat.zero_add, List.cons_append] using h

        | true =>
          rw [hdb] at hF1
          simp only [optF, if_true] at hF1
          have hrow : x.finds.map Fnd.cs ++ [[AV.int .i64 0, .int .i64 0, .int .i64 0, .int .i64 0, .int .i64 5, .str [100, 117, 112, 108, 105, 99, 97, 116, 101]]] = F1.map Fnd.cs := by rw [hF1]; simp [fw_cs, tDup]
          (try simp only [EVz, seval, ↓reduceIte, EV6, EV7, hw])
          intro blk hblk
          (try simp only [EVz, seval, ↓reduceIte, EV6, EV7, hw])
          refine dr ((b5, AObj.cells 34 x.cs) :: tokS c.1 50 (c.2.length * 6)) (n := x.finds.length) (m' := F1.length * 6) rfl hdk (by simp) rfl (by rw [hF1]; simp) rfl hblk (by omega) (fun g' hg' => ?_)
          (try simp only [EVz, seval, ↓reduceIte, EV6, EV7, hw, hrow])
          refine ab hO ?_
          (try simp only [EVz, seval, ↓reduceIte, EV6, EV7, hw])
          intro b7 hb7
          (try simp only [EVz, seval, ↓reduceIte, EV6, EV7, hw])
          cases o with
          | false =>
            have e : a.fnds i x = F1 := by rw [hF2]; simp [optF]
            (try simp only [EVz, seval, ↓reduceIte, EV6, EV7, hw])
            have h := hK2 (b7, g') trivial
            rw [e] at h
            simpa only [fnd_cs, List.cons_append, List.nil_append] using h
          | true =>
            have e : a.fnds i x = F1 ++ [f] := by rw [hF2]; simp [optF]
            (try simp only [EVz, seval, ↓reduceIte, EV6, EV7, hw])
            intro blk2 hblk2
            (try simp only [EVz, seval, ↓reduceIte, EV6, EV7, hw])
            refine dr ((b7, AObj.cells 50 [.int .i64 f.at_, .int .i64 f.id.act, .int .i64 f.id.item, .int .i64 f.id.n, .int .i64 f.why, .str f.text]) :: (b5, AObj.cells 34 x.cs) :: tokS c.1 50 (c.2.length * 6)) (n := F1.length) (m' := (F1.length + 1) * 6) rfl (tok_new hg' hb7) (by simp) rfl rfl rfl hblk2 (by omega) (fun g2 hg2 => ?_)
            (try simp only [EVz, seval, ↓reduceIte, EV6, EV7, hw])
            have h := hK (b7, g2) trivial
            rw [e] at h
            simpa only [List.map_append, List.map_cons, List.map_nil, fnd_cs, List.length_append, List.length_cons, List.length_nil, Nat.zero_add, List.cons_append] using h

    · (repeat' (first | (with_reducible (first | refine ae (fun h => ?_) (fun h => ?_) | refine ag (fun h => ?_) (fun h => ?_) | refine aa (fun h => ?_) (fun h => ?_)) <;> (try simp only [Da, Db, Dc, Dw, De, Df, Dg, Dh] at h)) | (with_reducible refine And.intro (by omega) ?_)  | simp only [EVz, seval, ↓reduceIte, EV6, EV7, hn] | (with_reducible intro blk hblk; (try (have hnx := hblk; simp only [EVK] at hnx; first | (have hne := And.intro hnx hne) | (have hne := hnx)))) | (with_reducible refine ak ?_ ?_) | (with_reducible refine am ?_) | (exfalso; omega)))
      exact hR _ _ (Or.inl (Or.inr ⟨rfl, by rw [hok]; simp [Ac.chkFrom]⟩))
end
end Go.Av
end

section
namespace Go.Av
open Go Go.RowKit Go.Proofs
set_option linter.unusedSimpArgs false
set_option linter.unusedVariables false

structure Ms where
  act : Int
  item : Int
  why : Int
  deriving DecidableEq, Inhabited
def Ms.cs (m : Ms) : List AV := [.int .i64 m.act, .int .i64 m.item, .int .i64 m.why]
def missOf (d : Dd) (e : Int) : List Ms := if e = 0 then [] else [⟨d.act, d.item, e⟩]
def stepP (u : U) (d : Dd) : U × List Ms := if chg d.it.kind = false then (u, []) else ((doP u d).1, missOf d (doP u d).2)
def allP : U → List Dd → U × List Ms
  | u, [] => (u, [])
  | u, d :: l => ((allP (stepP u d).1 l).1, (stepP u d).2 ++ (allP (stepP u d).1 l).2)
theorem allP_cons (u : U) (d : Dd) (l : List Dd) : allP u (d :: l) = ((allP (stepP u d).1 l).1, (stepP u d).2 ++ (allP (stepP u d).1 l).2) := rfl
theorem step_good {u : U} (h : Good u) (d : Dd) : Good (stepP u d).1 ∧ Root u (stepP u d).1 := by
  unfold stepP
  split
  · exact ⟨h, Root.refl u⟩
  · exact m9 h d
theorem miss_len (u : U) (d : Dd) : (stepP u d).2.length ≤ 1 := by
  unfold stepP missOf
  split
  · simp
  · simp only
    split <;> simp
theorem all_len : ∀ (l : List Dd) (u : U), (allP u l).2.length ≤ l.length
  | [], u => by simp [allP]
  | d :: l, u => by
    rw [allP_cons, List.length_append, List.length_cons]
    have := miss_len u d
    have := all_len l (stepP u d).1
    omega

end Go.Av
end

section
namespace Go.Av
open Go Go.RowKit Go.Proofs

def deedsF (a : Ac) : Nat → List Itm → List Dd
  | _, [] => []
  | i, x :: l => ⟨a.number, (i : Int), a.day, x⟩ :: deedsF a (i + 1) l
def Ac.deeds (a : Ac) : List Dd := deedsF a 0 a.items
theorem deedsF_len (a : Ac) : ∀ (l : List Itm) (i : Nat), (deedsF a i l).length = l.length
  | [], _ => rfl
  | x :: l, i => by rw [deedsF, List.length_cons, List.length_cons, deedsF_len a l (i + 1)]
theorem deedsF_app (a : Ac) : ∀ (l m : List Itm) (i : Nat), deedsF a i (l ++ m) = deedsF a i l ++ deedsF a (i + l.length) m
  | [], m, i => rfl
  | x :: l, m, i => by
    rw [List.cons_append, deedsF, deedsF_app a l m (i + 1), deedsF, List.cons_append, List.length_cons]
    congr 3
    omega
theorem deedsF_mem (a : Ac) : ∀ {l : List Itm} {i : Nat} {d : Dd}, d ∈ deedsF a i l → d.it ∈ l
  | [], _, d, h => by cases h
  | x :: l, i, d, h => by
    rw [deedsF] at h
    rcases List.mem_cons.1 h with rfl | h
    · simp
    · exact List.mem_cons_of_mem _ (deedsF_mem a h)
end Go.Av
end

section
namespace Go.Av
open Go Go.RowKit Go.Proofs
set_option linter.unusedSimpArgs false
set_option linter.unusedVariables false

theorem misses_ok (a : Ac) : ∀ (l : List Itm) (i : Nat) (u : U), ((allP u (deedsF a i l)).2.map Ms.item).Pairwise (· < ·) ∧
    ∀ m ∈ (allP u (deedsF a i l)).2, m.why ≠ 0 ∧ ∃ (j : Nat) (x : Itm), l[j]? = some x ∧ m.item = ((i + j : Nat) : Int) ∧ chg x.kind = true
  | [], i, u => by simp [deedsF, allP]
  | x :: l, i, u => by
    rw [deedsF, allP_cons]
    obtain ⟨h1, h2⟩ := misses_ok a l (i + 1) (stepP u ⟨a.number, (i : Int), a.day, x⟩).1
    have h3 : ∀ m ∈ (stepP u ⟨a.number, (i : Int), a.day, x⟩).2, m.why ≠ 0 ∧ m.item = (i : Int) ∧ chg x.kind = true := by
      intro m hm
      unfold stepP missOf at hm
      split at hm
      · cases hm
      · rename_i hc
        simp only at hm
        split at hm
        · cases hm
        · rename_i he
          simp only [List.mem_singleton] at hm
          subst hm
          exact ⟨he, rfl, by simpa using hc⟩
    have h4 : ((stepP u ⟨a.number, (i : Int), a.day, x⟩).2.map Ms.item).Pairwise (· < ·) := by
      have := miss_len u ⟨a.number, (i : Int), a.day, x⟩
      cases hs : (stepP u ⟨a.number, (i : Int), a.day, x⟩).2 with
      | nil => simp
      | cons m r =>
        rw [hs] at this
        cases r with
        | nil => simp
        | cons _ _ => simp at this
    refine ⟨?_, ?_⟩
    · simp only
      rw [List.map_append, List.pairwise_append]
      refine ⟨h4, h1, ?_⟩
      intro p hp q hq
      obtain ⟨m, hm, rfl⟩ := List.mem_map.1 hp
      obtain ⟨m2, hm2, rfl⟩ := List.mem_map.1 hq
      obtain ⟨_, e1, _⟩ := h3 m hm
      obtain ⟨_, j, y, _, e2, _⟩ := h2 m2 hm2
      omega
    · intro m hm
      rcases List.mem_append.1 hm with hm | hm
      · obtain ⟨e0, e1, e2⟩ := h3 m hm
        exact ⟨e0, 0, x, rfl, by simpa using e1, e2⟩
      · obtain ⟨e0, j, y, e1, e2, e3⟩ := h2 m hm
        exact ⟨e0, j + 1, y, by simpa using e1, by rw [e2]; omega, e3⟩
def itemNames : List (List UInt8) := [[105, 110, 115, 101, 114, 116], [114, 101, 112, 101, 97, 108], [119, 111, 114, 100, 115], [112, 117, 116], [104, 101, 97, 100, 105, 110, 103], [114, 101, 108, 97, 98, 101, 108], [109, 111, 118, 101], [99, 111, 109, 109, 101, 110, 99, 101], [101, 120, 112, 105, 114, 101], [114, 101, 118, 105, 118, 101], [104, 97, 112, 112, 101, 110], [99, 111, 114, 114, 101, 99, 116]]
def itemAt (a : Ac) (n : Int) : Itm := a.items.getD n.toNat default
def onF (a : Ac) (m : Ms) : Fnd := ⟨m.item, ⟨0, 0, 0⟩, m.why, itemNames.getD (itemAt a m.item).kind.toNat []⟩
def Ac.on (u : U) (a : Ac) : List Fnd := (allP u a.deeds).2.map (onF a)
end Go.Av
end

section
namespace Go.Av
open Go Go.RowKit Go.Proofs
set_option linter.unusedVariables false

def tabPow : List AV := Lib.pow10Tab.map (AV.int .u64)
theorem tabPow_len : tabPow.length = 20 := rfl
def listA (m : Int) : List (Nat × List AV) := [(6, tabNames), (2, tabBelow), (1, tabOrder), (5, tabPow), (7, [.int .i64 m]), (0, itemNames.map AV.str)]
def GA (m : Int) : Glob where
  tab := (globOf (listA m)).tab
  holds σ w := (∀ p ∈ listA m, RepAt σ w ⟨p.1, 0, none⟩ 0 p.2) ∧ ∃ e, w.shape? 5 = some (e, 20)
  ev he h := ⟨fun p hp => RepAt.ev he _ _ _ (h.1 p hp), h.2.imp fun e h => he.shape _ _ h⟩
  tabs := fun {σ w g cs} h ht => (globOf (listA m)).tabs (σ := σ) (w := w) (g := g) (cs := cs) h.1 ht
theorem GA_ok (m : Int) : GOk (GA m) := ⟨rfl, rfl, rfl⟩
theorem GA_names (m : Int) : (GA m).tab 0 = some (itemNames.map AV.str) := rfl
theorem gPow : Tryz.prog.globalNamed "internal/strconv.uint64pow10" = some 5 := by kernel_rfl
theorem ints_rep {τ : Store} {w : World} {k : IntKind} : ∀ {zs : List Int} {us : List Value}, RepL τ w (zs.map (AV.int k)) us → us = zs.map (Value.int k)
  | [], us, h => by simpa [RepL] using h
  | z :: zs, us, h => by
    simp only [List.map_cons, RepL] at h
    obtain ⟨u, us', rfl, h1, h2⟩ := h
    simp only [Rep] at h1
    rw [h1, ints_rep h2, List.map_cons]
theorem GA_ok2 (m : Int) : GOk2 (GA m) where
  max τ w hS := by
    have h := hS.glob.1 (7, [.int .i64 m]) (by simp [listA])
    simp only [RepAt] at h
    obtain ⟨⟨u, hf, _, hr⟩, _⟩ := h
    simp only [Rep] at hr
    exact ⟨m, hr ▸ hf.1⟩
  pow τ w hS := by
    have h := hS.glob.1 (5, tabPow) (by simp [listA])
    obtain ⟨e, hsh⟩ := hS.glob.2
    obtain ⟨vs, l1, l2, l3, l4⟩ := kK h 20 (by rw [tabPow_len]; exact Nat.le_refl _)
    have hvs := ints_rep (zs := Lib.pow10Tab) (by simpa [tabPow, List.take_of_length_le (show (Lib.pow10Tab.map (AV.int .u64)).length ≤ 20 from Nat.le_refl _)] using l2)
    unfold Lib.TabIs World.var?
    rw [gPow]
    unfold World.shape? at hsh
    simp only [Option.bind_some]
    cases hh : w.heap[5]? with
    | none => rw [hh] at hsh; cases hsh
    | some o =>
      rw [hh] at hsh
      cases o with
      | cells c el fr =>
        simp only [Option.some.injEq, Prod.mk.injEq] at hsh ⊢
        obtain ⟨_, hcs⟩ := hsh
        apply Array.ext'
        rw [← hvs]
        show c.toList = vs
        apply List.ext_getElem?
        intro j
        by_cases hj : j < 20
        · have hj2 : j < vs.length := by omega
          have h4 := l4 j vs[j] (List.getElem?_eq_getElem hj2)
          rw [add_lit, Nat.zero_add, cell_of_row w _ j c el fr hh] at h4
          rw [List.getElem?_eq_getElem hj2, ← h4]
          simp
        · rw [List.getElem?_eq_none (l := c.toList) (by rw [Array.length_toList]; omega), List.getElem?_eq_none (l := vs) (by omega)]
      | _ => cases hsh
end Go.Av

namespace Go.Proofs.YtjolkfjccojnnaaGreatDoor
open Go.ChangeShapes Go.WideShapes Go.ChangeAt Go.RowKit
set_option linter.unusedVariables false
noncomputable def tPowT : TypeId := ((Tryz.prog.globals[5]?).map (·.type)).getD 0
theorem tPow : (Tryz.prog.globals[5]?).map (·.type) = some tPowT := by kernel_rfl
theorem tPowD : Go.Av.avD Tryz.prog 6 tPowT (Rows.laid_internal_strconv_uint64pow10 (H := Unit)) = some Go.Av.tabPow := by kernel_rfl
theorem cell7 {W : World} (h : W.ShapedOpen Tryz.prog) : ∃ m, W.cell? ⟨7, 0, none⟩ = some (.int .i64 m) :=
  cell_of_shapedOpen_int (t := 3) (zero := #[.int .i64 0]) h (of_decide_eq_true (by kernel_rfl)) (by kernel_rfl) rfl (by kernel_rfl) (by kernel_rfl) (by kernel_rfl)
abbrev laidC : List (String × DataW Unit) := Rows.lintCleanActsSucceedRow.laid
theorem gItem : Tryz.prog.globalNamed "pandect/syntax.names" = some 0 := by kernel_rfl
noncomputable def tItemT : TypeId := ((Tryz.prog.globals[0]?).map (·.type)).getD 0
theorem tItem : (Tryz.prog.globals[0]?).map (·.type) = some tItemT := by kernel_rfl
theorem tItemD : Go.Av.avD Tryz.prog 6 tItemT (Rows.laid_pandect_syntax_names (H := Unit)) = some (Go.Av.itemNames.map Go.Av.AV.str) := by kernel_rfl
theorem memC1 : ("pandect/unit.names", Rows.laid_pandect_unit_names (H := Unit)) ∈ laidC.filter fun x => x.2.handleName?.isNone :=
  List.mem_filter.2 ⟨List.mem_of_getElem? (i := 4) rfl, by kernel_rfl⟩
theorem memC2 : ("pandect/unit.below", Rows.laid_pandect_unit_below (H := Unit)) ∈ laidC.filter fun x => x.2.handleName?.isNone :=
  List.mem_filter.2 ⟨List.mem_of_getElem? (i := 5) rfl, by kernel_rfl⟩
theorem memC3 : ("pandect/syntax.order", Rows.laid_pandect_syntax_order (H := Unit)) ∈ laidC := List.mem_of_getElem? (i := 7) rfl
theorem memC4 : ("internal/strconv.uint64pow10", Rows.laid_internal_strconv_uint64pow10 (H := Unit)) ∈ laidC.filter fun x => x.2.handleName?.isNone :=
  List.mem_filter.2 ⟨List.mem_of_getElem? (i := 2) rfl, by kernel_rfl⟩
theorem memC5 : ("pandect/syntax.names", Rows.laid_pandect_syntax_names (H := Unit)) ∈ laidC.filter fun x => x.2.handleName?.isNone :=
  List.mem_filter.2 ⟨List.mem_of_getElem? (i := 6) rfl, by kernel_rfl⟩
set_option maxRecDepth 100000 in
theorem metC (os : Os) (args : Array Value) : laidMetH Tryz.prog laidC ((laidWorld os).forCall (fun _ _ => 0) ⟨#[], args, []⟩).memory :=
  laidMetH_of_parts3 (fuel := 40) (laidMet_of_run' 40 (by kernel_rfl) (by kernel_rfl)) (by kernel_rfl) (by kernel_rfl)
theorem holdsA {W : World} (h : laidMetH Tryz.prog laidC W) (hs : W.ShapedOpen Tryz.prog) : ∃ m, (Go.Av.GA m).holds [] W := by
  obtain ⟨m, hm⟩ := cell7 hs
  have h0 := glob_holds h memC1 memC2 memC3
  obtain ⟨hmm, _⟩ := laidMetH_iff.1 h
  have hr := Go.Lib.laidMet.reads hmm memC4
  have hp := Go.Av.tab_of 6 hr Go.Av.gPow tPow tPowD
  refine ⟨m, fun p hp' => ?_, ?_⟩
  · simp only [Go.Av.listA, List.mem_cons, List.not_mem_nil, or_false] at hp'
    rcases hp' with rfl | rfl | rfl | rfl | rfl | rfl
    · exact h0 _ (by simp)
    · exact h0 _ (by simp)
    · exact h0 _ (by simp)
    · exact hp
    · simp only [Go.Av.RepAt, Go.Av.Rep]
      exact ⟨⟨_, Go.Av.iI hm, rfl, rfl⟩, trivial⟩
    · exact Go.Av.tab_of 6 (Go.Lib.laidMet.reads hmm memC5) gItem tItem tItemD
  · obtain ⟨g, t, cs, fuel, p, h1, h2, h3, h4⟩ := hr
    obtain rfl := Option.some.inj (Go.Av.gPow.symm.trans h1)
    obtain rfl := Option.some.inj (tPow.symm.trans h2)
    have hl := (Go.Av.avD_ok 6 tPowT _ _ tPowD fuel cs.toList p h4).1.length
    rw [Go.Av.tabPow_len, Array.length_toList] at hl
    unfold World.var? at h3
    rw [Go.Av.gPow] at h3
    simp only [Option.bind_some] at h3
    unfold World.shape?
    cases hh : W.heap[5]? with
    | none => rw [hh] at h3; cases h3
    | some o =>
      rw [hh] at h3
      cases o with
      | cells c el fr =>
        simp only [Option.some.injEq] at h3
        subst h3
        exact ⟨el, by simp only [hl]⟩
      | _ => cases h3
end Go.Proofs.YtjolkfjccojnnaaGreatDoor
end

section
namespace Go.Av
open Go Go.RowKit Go.Proofs
set_option linter.unusedSimpArgs false
set_option linter.unusedVariables false

end Go.Av
end

section
namespace Go.Av
open Go Go.RowKit Go.Proofs
set_option linter.unusedSimpArgs false
set_option linter.unusedVariables false

theorem bytesItem : Tryz.prog.bytesOf 34 = 368 := by kernel_rfl
theorem open_actB {n : Nat} {a : List AV} (h : Shp Tryz.prog reachBytes n 54 a) : ∃ x : Ac, a = x.cs ∧ x.items.length * 368 ≤ 140737488351232 ∧ ∀ y ∈ x.items, y.big := by
  obtain ⟨m, rfl, g⟩ := cE Tryz.underlying54 h
  clear h
  simp only [toL, ShpF] at g
  obtain ⟨a1, b1, rfl, h1, a2, b2, rfl, h2, a3, b3, rfl, h3, a4, b4, rfl, h4, a5, b5, rfl, h5, rfl⟩ := g
  obtain ⟨k, rfl⟩ := bK Tryz.underlying3 h1
  obtain ⟨s, _, rfl⟩ := eG Tryz.underlying9 h2
  obtain ⟨d, rfl⟩ := bK Tryz.underlying3 h3
  obtain ⟨t, rfl, _⟩ := lh h4
  obtain ⟨l, rfl, _, q, p⟩ := kA (f := Itm.cs) (q := Itm.big) (sz := 25) Tryz.underlying32 (by kernel_rfl) (fun m' hm r hr => ki m' r hr) h5
  rw [bytesItem] at q
  exact ⟨⟨k, s, d, t, l⟩, rfl, by unfold reachBytes at q; exact q, p⟩
end Go.Av
end

section
namespace Go.Av
open Go Go.RowKit Go.Proofs
set_option linter.unusedSimpArgs false
set_option linter.unusedVariables false

theorem app_keptL {e : TypeId} {sz bytes m : Nat} {g : Option Nat} {rows ys : List (List AV)} {K : AV → Store → Prop} (pre κ : Store) (hp : ∀ p ∈ pre, p.1 ∉ Store.keys (κ ++ tokS g e m)) (hg : ∀ b, g = some b → b ∉ κ.keys) (hm : m = rows.length * sz) (hnd : κ.keys.Nodup) (hb : (rows.length + ys.length) * bytes ≤ 140737488355328)
    (hk : ∀ g', (∀ b, g' = some b → b ∉ κ.keys) → K (.own g' e sz (rows ++ ys)) (κ ++ tokS g' e ((rows ++ ys).length * sz))) : appX e sz bytes (pre ++ (κ ++ tokS g e m)) g rows ys K := by
  subst hm
  refine fR κ (fun b h => ?_) hb ⟨fun q hq => ?_, fun _ => hnd⟩ hk
  · have h1 := tokF (e := e) (m := rows.length * sz) hg b h
    have hkey : b ∈ Store.keys (κ ++ tokS g e (rows.length * sz)) := List.mem_map.2 ⟨_, Store.get_mem h1, rfl⟩
    rw [ao]
    · exact h1
    · intro hm
      obtain ⟨p, hp1, rfl⟩ := List.mem_map.1 hm
      exact hp p hp1 hkey
  · cases g with
    | none => exact List.mem_append.2 (.inr (List.mem_append.2 (.inl hq)))
    | some b =>
      refine List.mem_filter.2 ⟨List.mem_append.2 (.inr (List.mem_append.2 (.inl hq))), ?_⟩
      have : q.1 ≠ b := fun h => hg b rfl (by rw [← h]; exact List.mem_map.2 ⟨q, hq, rfl⟩)
      simpa using this
def allAV (q : U × List Ms) : AV := .tup [.agg q.1.cs, .lst 3 (q.2.map Ms.cs)]
theorem chg_inR (k : Int) : inR k 0 6 = chg k := rfl

section
variable (G : Glob) (hG : GOk G)
include hG
set_option maxHeartbeats 4000000 in
theorem f42 (u : U) (hu : Good u) (l : List Dd) (hl : l.length < 1000000) (hs : ∀ d ∈ l, d.it.Shorts) : Pure G Tryz.prog 42 [.agg u.cs, .lst 28 (l.map Dd.cs)] (allAV (allP u l)) := by
  refine Pure.w c42 fun R hR => ?_
  unfold s42 r42
  unfold allAV at hR
  (repeat' (first | simp only [EVz, seval, ↓reduceIte, EV6, EV7] | (with_reducible intro blk hblk; (try (have hnx := hblk; simp only [EVK] at hnx; first | (have hne := And.intro hnx hne) | (have hne := hnx)))) | fail))
  rename_i b2 _ _ _
  generalize hbe : blk = b4 at *
  have q1 : ¬ b4 = b2 := by simpa [Store.keys] using hblk
  have q1' : ¬ b2 = b4 := fun e => q1 e.symm
  refine Zq (ι := U × List Ms × Option Nat) l (fun i r c => Good c.1 ∧ allP u l = ((allP c.1 r).1, c.2.1 ++ (allP c.1 r).2) ∧ c.2.1.length ≤ i ∧ (∀ d, c.2.2 = some d → d ∉ Store.keys [(b4, AObj.cells 27 zU), (b2, .cells 27 zU)])) (fun i c => [(2, .sc (.pointer (some ⟨b2, 0, none⟩))), (4, .sc (.pointer (some ⟨b4, 0, none⟩))), (6, .own c.2.2 93 3 (c.2.1.map Ms.cs)), (11, .lst 28 (l.map Dd.cs)), (12, .int .i64 l.length), (13, .int .i64 i)]) (fun i c => [(b4, .cells 27 zU), (b2, .cells 27 c.1.cs)] ++ tokS c.2.2 93 (c.2.1.length * 3)) (u, [], none) ⟨hu, by simp, by simp, by simp⟩ (Weak.of (by simp [cQ, Env.get, AVle, aP]) (SubN.refl _)) (by omega) (fun i x r c hok hx hw => ?_) (fun c hok hn => ?_)
  · obtain ⟨o1, o2, o3, o4⟩ := hok
    have hI := f68 G x.it.kind
    rw [chg_inR] at hI
    have hA := f12 G hG c.1 o1 x (hs x hx.mem)
    have hst := step_good o1 x
    have hil := hx.lt
    rw [allP_cons] at o2
    unfold aQ at hA
    unfold stepP at o2 hst
    cases hc : chg x.it.kind with
    | false =>
      rw [hc] at hI
      rw [hc, if_pos rfl] at o2 hst
      (repeat' (first | (with_reducible refine ab (hI) ?_) | simp only [EVz, seval, ↓reduceIte, EV6, EV7, hx.yes, hx.le0, hx.lt', hx.get, hx.row, hw, Dd.cs, Itm.cs_eq, hne] | (with_reducible intro blk hblk; (try (have hnx := hblk; simp only [EVK] at hnx; (have hne := And.intro hnx hne)))) | fail))
      exact af hx c ⟨o1, by simpa using o2, by omega, o4⟩ (Weak.sub (SubN.tail (SubN.refl _) _))
    | true =>
      rw [hc] at hI
      rw [hc, if_neg (by simp)] at o2 hst
      obtain ⟨⟨v, e⟩, hve⟩ : ∃ z, doP c.1 x = z := ⟨_, rfl⟩
      rw [hve] at hA o2 hst
      unfold missOf at o2 hst
      simp only [Dd.cs, Itm.cs_eq] at hA
      rcases Classical.em (e = 0) with he | he
      · subst he
        (repeat' (first | (with_reducible refine ab (hI) ?_) | (with_reducible refine ab (hA) ?_) | simp only [EVz, seval, ↓reduceIte, EV6, EV7, hx.yes, hx.le0, hx.lt', hx.get, hx.row, hw, Dd.cs, Itm.cs_eq, hne] | (with_reducible intro blk hblk; (try (have hnx := hblk; simp only [EVK] at hnx; (have hne := And.intro hnx hne)))) | fail))
        exact af hx (v, c.2.1, c.2.2) ⟨hst.1, by simpa using o2, Nat.le_succ_of_le o3, o4⟩ (Weak.sub (SubN.tail (SubN.tail (SubN.refl _) _) _))
      · (repeat' (first | (with_reducible (refine ae (fun h => ?_) (fun h => ?_)) <;> (try simp only [Da, Db, Dc, Dw, De, Df, Dg, Dh] at h)) | (with_reducible refine ab (hI) ?_) | (with_reducible refine ab (hA) ?_) | simp only [EVz, seval, ↓reduceIte, EV6, EV7, hx.yes, hx.le0, hx.lt', hx.get, hx.row, hw, Dd.cs, Itm.cs_eq, he, hne] | (with_reducible intro blk hblk; (try (have hnx := hblk; simp only [EVK] at hnx; (have hne := And.intro hnx hne)))) | (exfalso; omega) | fail))
        clear hA hI
        rename_i b8 _ _ _ b9 _ _ _
        obtain ⟨n1, n2, n3, n4⟩ := hne
        have hm3 : ∀ d, c.2.2 = some d → d ∈ (tokS c.2.2 93 (c.2.1.length * 3)).keys := by
          intro d hd
          rw [hd]
          simp [tokS, Store.keys]
        refine ⟨[Ms.cs ⟨x.act, x.item, e⟩], rfl, by simp [Ms.cs], by simp [Ms.cs], ?_⟩
        refine app_keptL (sz := 3) (bytes := 24) (rows := c.2.1.map Ms.cs) (ys := [Ms.cs ⟨x.act, x.item, e⟩]) (m := c.2.1.length * 3) [(blk, _)] [(b9, _), (b8, _), (b4, _), (b2, _)] ?_ ?_ (by rw [List.length_map]) ?_ (by rw [List.length_map]; simp; omega) (fun gn hgn => ?_)
        · intro p hp
          simp only [List.mem_singleton] at hp
          subst hp
          simp [Store.keys, n1]
          simpa [Store.keys] using n1.2.2.2.2
        · intro d hd
          have h1 := hm3 d hd
          have h2 := o4 d hd
          simp [Store.keys] at h2 ⊢
          refine ⟨fun q => n2.2.2.2 (q ▸ h1), fun q => n3.2.2 (q ▸ h1), h2.1, h2.2⟩
        · simp [Store.keys, n2, n3, q1]
        (repeat' (simp only [EVz, seval, ↓reduceIte, EV6, EV7, n1, n2, n3, q1, q1', hw, hne]))
        refine af hx (v, c.2.1 ++ [⟨x.act, x.item, e⟩], gn) ⟨hst.1, by simpa [he] using o2, ?_, ?_⟩ ?_
        · rw [List.length_append]; exact Nat.succ_le_succ o3
        · intro d hd
          have := hgn d hd
          simp [Store.keys] at this ⊢
          exact ⟨this.2.2.1, this.2.2.2⟩
        · simp only [List.map_append, List.map_cons, List.map_nil, List.length_append, List.length_map, List.length_cons, List.length_nil]
          exact Weak.sub (SubN.tail (SubN.tail (SubN.refl _) _) _)
  · (repeat' (simp only [EVz, seval, ↓reduceIte, EV6, EV7, hn, hne]))
    obtain ⟨o1, o2, o3, o4⟩ := hok
    simp only [allP, List.append_nil] at o2
    rw [o2] at hR
    exact hR _ _ (.inr ⟨aP.rfl' _, .inr ⟨rfl, rfl⟩, trivial⟩)
end
end Go.Av
end

section
namespace Go.Av
open Go Go.RowKit Go.Proofs
set_option linter.unusedSimpArgs false
set_option linter.unusedVariables false

section
variable (G : Glob)
theorem f16 (hG : GOk G) (u : U) (hu : Good u) (a : Ac) (hl : a.items.length < 1000000) (hs : ∀ d ∈ a.deeds, d.it.Shorts) : Pure G Tryz.prog 16 [.agg u.cs, .agg a.cs] (allAV (allP u a.deeds)) := by
  have hA := f42 G hG u hu a.deeds (by unfold Ac.deeds; rw [deedsF_len]; exact hl) hs
  unfold Ac.cs
  refine Pure.w c16 fun R hR => ?_
  unfold s16 r16
  unfold allAV at hA hR
  (repeat' (first | simp only [EVz, seval, ↓reduceIte, EV6, EV7] | (with_reducible intro blk hblk; (try (have hnx := hblk; simp only [EVK] at hnx; (have hne := hnx)))) | fail))
  generalize hbe : blk = b4 at *
  refine Zq (ι := Option Nat) a.items (fun i r c => ∀ d, c = some d → d ∉ Store.keys [(b4, AObj.cells 27 zU)]) (fun i c => [(2, .ref u.cs), (3, .ref [.int .i64 a.number, .str a.title, .int .i64 a.day, .int .i64 a.start.kind, .int .i64 a.start.day, .str a.start.event, .lst 25 (a.items.map Itm.cs)]), (4, .sc (.pointer (some ⟨b4, 0, none⟩))), (6, .own c 36 28 ((deedsF a 0 (a.items.take i)).map Dd.cs)), (10, .lst 25 (a.items.map Itm.cs)), (11, .int .i64 a.items.length), (12, .int .i64 i)]) (fun i c => [(b4, .cells 27 zU)] ++ tokS c 36 (i * 28)) none (by simp) (Weak.of (by simp [cQ, Env.get, AVle, aP, deedsF]) (SubN.refl _)) (by omega) (fun i x r c hok hx hw => ?_) (fun c hok hn => ?_)
  · have hi := hx.lt
    have hxl := Itm.cs_len x
    clear hne hnx hblk
    have hne := True.intro
    (repeat' (first | simp only [EVz, seval, ↓reduceIte, EV6, EV7, hx.yes, hx.le0, hx.lt', hx.get, hx.row, hw, hxl, Itm.cs_eq, hne] | (with_reducible intro blk hblk; (try (have hnx := hblk; simp only [EVK] at hnx; (have hne := And.intro hnx hne)))) | fail))
    obtain ⟨m1, m2, _⟩ := hne
    have hm3 : ∀ d, c = some d → d ∈ (tokS c 36 (i * 28)).keys := by
      intro d hd
      rw [hd]
      simp [tokS, Store.keys]
    refine ⟨[Dd.cs ⟨a.number, (i : Int), a.day, x⟩], rfl, by simp [Dd.cs, hxl], by simp [Dd.cs, Itm.cs_eq], ?_⟩
    refine app_keptL (sz := 28) (bytes := 392) (rows := (deedsF a 0 (a.items.take i)).map Dd.cs) (ys := [Dd.cs ⟨a.number, (i : Int), a.day, x⟩]) (m := i * 28) [(blk, _)] [(_, _), (b4, _)] ?_ ?_ (by rw [List.length_map, deedsF_len, List.length_take, Nat.min_eq_left (by omega)]) ?_ (by rw [List.length_map, deedsF_len, List.length_take]; simp; omega) (fun gn hgn => ?_)
    · intro p hp
      simp only [List.mem_singleton] at hp
      subst hp
      simp [Store.keys, m1]
      simpa [Store.keys] using m1.2.2
    · intro d hd
      have h1 := hm3 d hd
      have h2 := hok d hd
      simp [Store.keys] at h2 ⊢
      exact ⟨fun q => m2.2 (q ▸ h1), h2⟩
    · simp [Store.keys, m2]
    (repeat' (simp only [EVz, seval, ↓reduceIte, EV6, EV7, m1, m2, hw, hne]))
    have e : (deedsF a 0 (a.items.take (i + 1))).map Dd.cs = (deedsF a 0 (a.items.take i)).map Dd.cs ++ [Dd.cs ⟨a.number, (i : Int), a.day, x⟩] := by
      have h1 : (a.items.take i).length = i := by rw [List.length_take]; omega
      rw [hx.take, deedsF_app, h1, Nat.zero_add, List.map_append]
      rfl
    have e2 : ((deedsF a 0 (a.items.take i)).map Dd.cs ++ [Dd.cs ⟨a.number, (i : Int), a.day, x⟩]).length = i + 1 := by
      rw [← e, List.length_map, deedsF_len, List.length_take]; omega
    refine af hx gn ?_ ?_
    · intro d hd
      have := hgn d hd
      simp [Store.keys] at this ⊢
      exact this.2
    · rw [e2, ← e]
      exact Weak.sub (SubN.tail (SubN.refl _) _)
  · (repeat' (first | simp only [EVz, seval, ↓reduceIte, EV6, EV7, hn, hne] | (refine aC hA ⟨AVle.rfl' _, .inl (.inr ⟨rfl, by rw [List.take_length]; rfl⟩), trivial⟩ ?_) | fail))
    exact hR _ _ (.inl (.inl rfl))
end
end Go.Av
end

section
namespace Go.Av
open Go Go.RowKit Go.Proofs
set_option linter.unusedSimpArgs false
set_option linter.unusedVariables false

theorem lt12 {k : Int} (h0 : 0 ≤ k) (h7 : k < 12) : k = 0 ∨ k = 1 ∨ k = 2 ∨ k = 3 ∨ k = 4 ∨ k = 5 ∨ k = 6 ∨ k = 7 ∨ k = 8 ∨ k = 9 ∨ k = 10 ∨ k = 11 := by omega
section
variable (G : Glob)
theorem f43 (hN : G.tab 0 = some (itemNames.map AV.str)) (k : Int) (h0 : 0 ≤ k) (h1 : k < 12) : Pure G Tryz.prog 43 [.int .i64 k] (.str (itemNames.getD k.toNat [])) := by
  have hg := eval_g hN
  refine Pure.w c43 fun R hR => ?_
  unfold s43 r43
  rcases lt12 h0 h1 with rfl | rfl | rfl | rfl | rfl | rfl | rfl | rfl | rfl | rfl | rfl | rfl <;> ((repeat' (simp only [EVz, seval, ↓reduceIte, EV6, EV7, hg, itemNames, List.map, Int.toNat, List.drop, List.headD, List.length])); exact RET.eq hR rfl)
theorem f41 (a : Ac) (hl : a.items.length < 1000000) : Pure G Tryz.prog 41 [.agg a.cs] (.lst 28 (a.deeds.map Dd.cs)) := by
  unfold Ac.cs
  refine Pure.w c41 fun R hR => ?_
  unfold s41 r41
  (repeat' (first | simp only [EVz, seval, ↓reduceIte, EV6, EV7, hx.yes, hx.le0, hx.lt', hx.get, hx.row, hw] | simp only [EVz, seval, ↓reduceIte, EV6, EV7, hn] | simp only [EVz, seval, ↓reduceIte, EV6, EV7] | (with_reducible intro blk hblk; (try (have hnx := hblk; simp only [EVK] at hnx; (have hne := hnx)))) | (refine ⟨[], rfl, (by simp), rfl, ?_⟩) | (refine Zq (ι := Option Nat) a.items (fun i r c => True) (fun i c => [(1, .ref [.int .i64 a.number, .str a.title, .int .i64 a.day, .int .i64 a.start.kind, .int .i64 a.start.day, .str a.start.event, .lst 25 (a.items.map Itm.cs)]), (3, .own c 36 28 ((deedsF a 0 (a.items.take i)).map Dd.cs)), (4, .int .i64 i)]) (fun i c => tokS c 36 (i * 28)) (some blk) trivial (Weak.rfl' _ _) (by omega) (fun i x r c hok hx hw => ?_) (fun c hok hn => ?_)) | fail))
  · have hi := hx.lt
    have hxl := Itm.cs_len x
    refine cV (n := i) (m' := (i + 1) * 28) bI (by rw [List.length_map, deedsF_len, List.length_take]; omega) rfl rfl (by simp [hxl]) (by assumption) (by omega) (fun gn => ?_)
    refine af hx gn trivial ?_
    have e : (deedsF a 0 (a.items.take (i + 1))).map Dd.cs = (deedsF a 0 (a.items.take i)).map Dd.cs ++ [Dd.cs ⟨a.number, (i : Int), a.day, x⟩] := by
      have h1 : (a.items.take i).length = i := by rw [List.length_take]; omega
      rw [hx.take, deedsF_app, h1, Nat.zero_add, List.map_append]
      rfl
    rw [e]
    exact Weak.rfl' _ _
  · exact hR _ _ (Or.inl (Or.inr ⟨rfl, by rw [List.take_length]; rfl⟩))
set_option maxHeartbeats 8000000 in
theorem f18 (hN : G.tab 0 = some (itemNames.map AV.str)) (hG : GOk G) (u : U) (hu : Good u) (a : Ac) (hl : a.items.length < 1000000) (hs : ∀ d ∈ a.deeds, d.it.Shorts) : Pure G Tryz.prog 18 [.agg u.cs, .agg a.cs] (.lst 6 ((a.on u).map Fnd.cs)) := by
  have hA := f16 G hG u hu a hl hs
  have hmo := misses_ok a a.items 0 u
  unfold Ac.on Ac.deeds at *
  obtain ⟨⟨v, m⟩, hvm⟩ : ∃ z, allP u (deedsF a 0 a.items) = z := ⟨_, rfl⟩
  rw [hvm] at hA hmo ⊢
  unfold allAV Ac.cs at hA
  unfold Ac.cs
  simp only at hA hmo ⊢
  refine Pure.w c18 fun R hR => ?_
  unfold s18 r18
  (repeat' (first | (with_reducible refine ab (hA) ?_) | simp only [EVz, seval, ↓reduceIte, EV6, EV7] | (with_reducible intro blk hblk; (try (have hnx := hblk; simp only [EVK] at hnx; (have hne := hnx)))) | fail))
  clear hnx hne
  have hml : m.length ≤ a.items.length := by
    have := all_len (deedsF a 0 a.items) u
    rw [hvm, deedsF_len] at this
    exact this
  refine Zq (ι := Option Nat) m (fun i r c => True) (fun i c => [(3, .ref [.int .i64 a.number, .str a.title, .int .i64 a.day, .int .i64 a.start.kind, .int .i64 a.start.day, .str a.start.event, .lst 25 (a.items.map Itm.cs)]), (5, .own c 50 6 (((m.take i).map (onF a)).map Fnd.cs)), (16, .lst 3 (m.map Ms.cs)), (17, .int .i64 m.length), (18, .int .i64 i)]) (fun i c => tokS c 50 (i * 6)) none trivial (Weak.of (by simp [cQ, Env.get, AVle, aP]) (SubN.nil _)) (by omega) (fun i x r c hok hx hw => ?_) (fun c hok hn => ?_)
  · have hne := True.intro
    obtain ⟨hy0, j, y, hy1, hy2, hy3⟩ := hmo.2 x hx.mem
    have hjl : j < a.items.length := (List.getElem?_eq_some_iff.1 hy1).1
    have hi0 : 0 ≤ x.item := by omega
    have hi1 : x.item < a.items.length := by omega
    have hat : itemAt a x.item = y := by
      unfold itemAt
      rw [hy2, Nat.zero_add, Int.toNat_natCast, List.getD_eq_getElem?_getD, hy1]; rfl
    have hg : (a.items.map Itm.cs).getD x.item.toNat [] = y.cs := by
      rw [hy2, Nat.zero_add, Int.toNat_natCast, List.getD_eq_getElem?_getD, List.getElem?_map, hy1]; rfl
    have hyk : 0 ≤ y.kind ∧ y.kind ≤ 6 := by simpa [chg] using hy3
    have hK := f43 G hN y.kind (by omega) (by omega)
    have hrow : Fnd.cs (onF a x) = [.int .i64 x.item, .int .i64 0, .int .i64 0, .int .i64 0, .int .i64 x.why, .str (itemNames.getD y.kind.toNat [])] := by unfold onF; rw [hat]; rfl
    have hy0' : y.cs.headD .any = .int .i64 y.kind := by rw [Itm.cs_eq]; rfl
    have hstep : ((m.take (i + 1)).map (onF a)).map Fnd.cs = ((m.take i).map (onF a)).map Fnd.cs ++ [[.int .i64 x.item, .int .i64 0, .int .i64 0, .int .i64 0, .int .i64 x.why, .str (itemNames.getD y.kind.toNat [])]] := by
      rw [hx.take, List.map_append, List.map_append, List.map_cons, List.map_nil, List.map_cons, List.map_nil, hrow]
    clear hy1 hy2 hat
    (repeat' (first | (with_reducible refine And.intro (by omega) ?_) | (with_reducible refine ab (hK) ?_) | simp only [EVz, seval, ↓reduceIte, EV6, EV7, hx.yes, hx.le0, hx.lt', hx.get, hx.row, hw, Ms.cs, hg, hy0', Itm.cs_len, hne] | (with_reducible intro blk hblk; (try (have hnx := hblk; simp only [EVK] at hnx; (have hne := And.intro hnx hne)))) | (with_reducible refine ak ?_ ?_) | (with_reducible refine am ?_) | (refine cV (n := i) (m' := (i + 1) * 6) (by exact bT (by assumption)) (by simp; have := hx.lt; omega) rfl rfl rfl (by assumption) (by have := hx.lt; omega) (fun gn => ?_)) | (refine af hx gn trivial ?_) | fail))
    all_goals (rw [hstep]; exact Weak.rfl' _ _)
  · (repeat' (simp only [EVz, seval, ↓reduceIte, EV6, EV7, hn]))
    exact hR _ _ (Or.inl (Or.inr ⟨rfl, by rw [List.take_length]⟩))
end
end Go.Av
end

section
namespace Go.Av
open Go Go.RowKit Go.Proofs
set_option linter.unusedSimpArgs false
set_option linter.unusedVariables false

theorem few_act {a : Ac} (hf : ∀ x ∈ a.items, x.fit) (h : a.few = true) : a.items.length ≤ 40 ∧ a.title.length ≤ 300 ∧ a.start.event.length ≤ 100 ∧ ∀ x ∈ a.items, x.Shorts := by
  unfold Ac.few at h
  simp only [Bool.and_eq_true, decide_eq_true_eq] at h
  exact ⟨h.1.1.1, h.1.1.2, h.1.2, fun x hx => rh x (hf x hx) (List.all_eq_true.1 h.2 x hx)⟩
section
variable (G : Glob) (hG : GOk G) (hG2 : GOk2 G)
include hG hG2
end
end Go.Av
end

section
namespace Go.Av
open Go Go.RowKit Go.Proofs
set_option linter.unusedSimpArgs false
set_option linter.unusedVariables false

def fineB (u : U) (a : Ac) : Bool := u.few 30 && (qD u && (a.few && o6 u.ids [] a.deeds))
section
variable (G : Glob) (hN : G.tab 0 = some (itemNames.map AV.str)) (hG : GOk G) (hG2 : GOk2 G)
theorem f15 (u : U) (hfit : u.fit) (a : Ac) (hl : a.items.length < 1000000000000000000) (hf : ∀ x ∈ a.items, x.fit) : Pure G Tryz.prog 15 [.agg u.cs, .agg a.cs] (.bool (fineB u a)) := by
  have hW := f5 G u 30 hfit (by omega) (by omega)
  have hQ := f40 G a (by omega) hf
  refine Pure.w c15 fun R hR => ?_
  unfold s15 r15
  unfold fineB at hR
  cases h1 : u.few 30 with
  | false =>
    rw [h1] at hW hR
    unfold Ac.cs
    (repeat' (first | (with_reducible (first | refine ae (fun h => ?_) (fun h => ?_) | refine ag (fun h => ?_) (fun h => ?_) | refine aa (fun h => ?_) (fun h => ?_)) <;> (try simp only [Da, Db, Dc, Dw, De, Df, Dg, Dh] at h)) | (with_reducible refine And.intro (by omega) ?_) | (with_reducible refine ab (hW) ?_) | simp only [EVz, seval, ↓reduceIte, EV6, EV7, hne] | simp only [EVz, seval, ↓reduceIte, EV6, EV7] | (with_reducible intro blk hblk; (try (have hnx := hblk; simp only [EVK] at hnx; first | (have hne := And.intro hnx hne) | (have hne := hnx)))) | (with_reducible refine ak ?_ ?_) | (with_reducible refine am ?_) | (exfalso; omega)))
    all_goals exact hR _ _ (.inl (.inl rfl))
  | true =>
  have hs := qM hfit (by omega) (by omega) h1
  have hB := f6 G u hs
  cases h2 : qD u with
  | false =>
    rw [h1] at hW
    rw [h1, h2] at hR
    rw [h2] at hB
    unfold Ac.cs
    (repeat' (first | (with_reducible (first | refine ae (fun h => ?_) (fun h => ?_) | refine ag (fun h => ?_) (fun h => ?_) | refine aa (fun h => ?_) (fun h => ?_)) <;> (try simp only [Da, Db, Dc, Dw, De, Df, Dg, Dh] at h)) | (with_reducible refine And.intro (by omega) ?_) | (with_reducible refine ab (hW) ?_) | (with_reducible refine ab (hB) ?_) | simp only [EVz, seval, ↓reduceIte, EV6, EV7, hne] | simp only [EVz, seval, ↓reduceIte, EV6, EV7] | (with_reducible intro blk hblk; (try (have hnx := hblk; simp only [EVK] at hnx; first | (have hne := And.intro hnx hne) | (have hne := hnx)))) | (with_reducible refine ak ?_ ?_) | (with_reducible refine am ?_) | (exfalso; omega)))
    all_goals exact hR _ _ (.inl (.inl rfl))
  | true =>
  rw [h2] at hB
  cases h3 : a.few with
  | false =>
    rw [h1] at hW
    rw [h1, h2, h3] at hR
    rw [h3] at hQ
    unfold Ac.cs at hQ ⊢
    (repeat' (first | (with_reducible (first | refine ae (fun h => ?_) (fun h => ?_) | refine ag (fun h => ?_) (fun h => ?_) | refine aa (fun h => ?_) (fun h => ?_)) <;> (try simp only [Da, Db, Dc, Dw, De, Df, Dg, Dh] at h)) | (with_reducible refine And.intro (by omega) ?_) | (with_reducible refine ab (hW) ?_) | (with_reducible refine ab (hB) ?_) | (with_reducible refine ab (hQ) ?_) | simp only [EVz, seval, ↓reduceIte, EV6, EV7, hne] | simp only [EVz, seval, ↓reduceIte, EV6, EV7] | (with_reducible intro blk hblk; (try (have hnx := hblk; simp only [EVK] at hnx; first | (have hne := And.intro hnx hne) | (have hne := hnx)))) | (with_reducible refine ak ?_ ?_) | (with_reducible refine am ?_) | (exfalso; omega)))
    all_goals exact hR _ _ (.inl (.inl rfl))
  | true =>
  obtain ⟨h40, _, _, _⟩ := few_act hf h3
  have hD := f41 G a (by omega)
  have hFr := f10 G u hs.1 a.deeds (by unfold Ac.deeds; rw [deedsF_len]; omega)
  rw [h1] at hW
  rw [h1, h2, h3] at hR
  rw [h3] at hQ
  simp only [Bool.true_and] at hR
  unfold Ac.cs at hQ hD ⊢
  (repeat' (first | (with_reducible (first | refine ae (fun h => ?_) (fun h => ?_) | refine ag (fun h => ?_) (fun h => ?_) | refine aa (fun h => ?_) (fun h => ?_)) <;> (try simp only [Da, Db, Dc, Dw, De, Df, Dg, Dh] at h)) | (with_reducible refine And.intro (by omega) ?_) | (with_reducible refine ab (hW) ?_) | (with_reducible refine ab (hB) ?_) | (with_reducible refine ab (hQ) ?_) | (with_reducible refine ab (hD) ?_) | (with_reducible refine ab (hFr) ?_) | simp only [EVz, seval, ↓reduceIte, EV6, EV7, hne] | simp only [EVz, seval, ↓reduceIte, EV6, EV7] | (with_reducible intro blk hblk; (try (have hnx := hblk; simp only [EVK] at hnx; first | (have hne := And.intro hnx hne) | (have hne := hnx)))) | (with_reducible refine ak ?_ ?_) | (with_reducible refine am ?_) | (exfalso; omega)))
  all_goals exact hR _ _ (.inl (.inl rfl))
include hN hG hG2
theorem f17 (u : U) (hu : Good u) (a : Ac) (ht : a.title.length < 4294967281) (he : a.start.event.length < 1000000000000000000) (hl : a.items.length < 1000000) (hs : ∀ x ∈ a.items, x.Shorts) : Pure G Tryz.prog 17 [.agg u.cs, .agg a.cs] (.bool (decide ((a.chk.length : Int) = 0) && decide (((a.on u).length : Int) = 0))) := by
  have h1 := f33 G hG hG2 a ht he (by omega) hs
  have h2 := f18 G hN hG u hu a hl (fun d hd => hs _ (deedsF_mem a hd))
  refine Pure.w c17 fun R hR => ?_
  unfold s17 r17
  unfold Ac.cs at h1 h2 ⊢
  (repeat' (first | (with_reducible (first | refine ae (fun h => ?_) (fun h => ?_) | refine ag (fun h => ?_) (fun h => ?_) | refine aa (fun h => ?_) (fun h => ?_)) <;> (try simp only [Da, Db, Dc, Dw, De, Df, Dg, Dh] at h)) | (with_reducible refine And.intro (by omega) ?_) | (with_reducible refine ab (h1) ?_) | (with_reducible refine ab (h2) ?_) | simp only [EVz, seval, ↓reduceIte, EV6, EV7, hne] | simp only [EVz, seval, ↓reduceIte, EV6, EV7] | (with_reducible intro blk hblk; (try (have hnx := hblk; simp only [EVK] at hnx; first | (have hne := And.intro hnx hne) | (have hne := hnx)))) | (with_reducible refine ak ?_ ?_) | (with_reducible refine am ?_) | (exfalso; omega)))
  · exact RET.eq hR (by rw [decide_eq_true h, Bool.true_and])
  · exact RET.eq hR (by rw [decide_eq_false h, Bool.false_and])
set_option maxHeartbeats 8000000 in
theorem f4 (u : U) (hfit : u.fit) (a : Ac) (hl : a.items.length < 1000000000000000000) (hf : ∀ x ∈ a.items, x.fit) : Pure G Tryz.prog 4 [.agg u.cs, .agg a.cs] (.bool true) := by
  have hAw := f11 G hG
  have hFi := f15 G u hfit a hl hf
  cases h1 : fineB u a with
  | false =>
    rw [h1] at hFi
    refine Pure.w c4 fun R hR => ?_
    unfold s4 r4
    unfold Ac.cs at hFi ⊢
    (repeat' (first | (with_reducible (first | refine ae (fun h => ?_) (fun h => ?_) | refine ag (fun h => ?_) (fun h => ?_) | refine aa (fun h => ?_) (fun h => ?_)) <;> (try simp only [Da, Db, Dc, Dw, De, Df, Dg, Dh] at h)) | (with_reducible refine And.intro (by omega) ?_) | (with_reducible refine ab (hAw) ?_) | (with_reducible refine ab (hFi) ?_) | simp only [EVz, seval, ↓reduceIte, EV6, EV7, hne] | simp only [EVz, seval, ↓reduceIte, EV6, EV7] | (with_reducible intro blk hblk; (try (have hnx := hblk; simp only [EVK] at hnx; first | (have hne := And.intro hnx hne) | (have hne := hnx)))) | (with_reducible refine ak ?_ ?_) | (with_reducible refine am ?_) | (exfalso; omega)))
    all_goals exact hR _ _ (.inl (.inl rfl))
  | true =>
  rw [h1] at hFi
  unfold fineB at h1
  simp only [Bool.and_eq_true] at h1
  obtain ⟨_, h2, h3, _⟩ := h1
  have hg := qZ h2
  obtain ⟨h40, h300, h100, hs⟩ := few_act hf h3
  have hA := f16 G hG u hg a (by omega) (fun d hd => hs _ (deedsF_mem a hd))
  have hC := f17 G hN hG hG2 u hg a (by omega) (by omega) (by omega) hs
  have hO := f18 G hN hG u hg a (by omega) (fun d hd => hs _ (deedsF_mem a hd))
  have hmo := misses_ok a a.items 0 u
  have hml := all_len a.deeds u
  have hdl : a.deeds.length = a.items.length := by unfold Ac.deeds; rw [deedsF_len]
  unfold Ac.on Ac.deeds at *
  obtain ⟨⟨v, m⟩, hvm⟩ : ∃ z, allP u (deedsF a 0 a.items) = z := ⟨_, rfl⟩
  rw [hvm] at hA hmo hC hO hml
  unfold allAV at hA
  simp only at hA hmo hC hO hml
  obtain ⟨L, hL⟩ : ∃ L, m.map (onF a) = L := ⟨_, rfl⟩
  have hLl : L.length = m.length := by rw [← hL, List.length_map]
  have hL1 : (L.map Fnd.at_).Pairwise (· < ·) := by
    rw [← hL, List.map_map]
    exact hmo.1
  have hL2 : ∀ f ∈ L, 0 ≤ f.at_ ∧ f.at_ < a.items.length ∧ f.why ≠ 0 := by
    intro f hf
    rw [← hL] at hf
    obtain ⟨x, hx, rfl⟩ := List.mem_map.1 hf
    obtain ⟨g1, j, y, g2, g3, _⟩ := hmo.2 x hx
    have := (List.getElem?_eq_some_iff.1 g2).1
    refine ⟨?_, ?_, g1⟩
    · show 0 ≤ x.item
      omega
    · show x.item < _
      omega
  rw [hL] at hC hO
  refine Pure.w c4 fun R hR => ?_
  unfold s4 r4
  unfold Ac.cs at hFi hA hC hO ⊢
  (repeat' (first | (with_reducible (first | refine ae (fun h => ?_) (fun h => ?_) | refine ag (fun h => ?_) (fun h => ?_) | refine aa (fun h => ?_) (fun h => ?_)) <;> (try simp only [Da, Db, Dc, Dw, De, Df, Dg, Dh] at h)) | (with_reducible refine And.intro (by omega) ?_) | (with_reducible refine ab (hAw) ?_) | (with_reducible refine ab (hFi) ?_) | (with_reducible refine ab (hA) ?_) | (with_reducible refine ab (hC) ?_) | (with_reducible refine ab (hO) ?_) | simp only [EVz, seval, ↓reduceIte, EV6, EV7, hne] | simp only [EVz, seval, ↓reduceIte, EV6, EV7] | (with_reducible intro blk hblk; (try (have hnx := hblk; simp only [EVK] at hnx; first | (have hne := And.intro hnx hne) | (have hne := hnx)))) | (with_reducible refine ak ?_ ?_) | (with_reducible refine am ?_) | (exfalso; omega)))
  · exfalso
    rename_i hq
    simp only [Bool.and_eq_true, decide_eq_true_eq] at hq
    omega
  all_goals
    refine Zq (ι := Int) L (fun i r c => (∀ f ∈ r, c < f.at_) ∧ (r.map Fnd.at_).Pairwise (· < ·)) (fun i c => [(2, .ref u.cs), (3, .ref [.int .i64 a.number, .str a.title, .int .i64 a.day, .int .i64 a.start.kind, .int .i64 a.start.day, .str a.start.event, .lst 25 (a.items.map Itm.cs)]), (6, .lst 3 (m.map Ms.cs)), (7, .int .i64 c), (31, .lst 6 (L.map Fnd.cs)), (32, .int .i64 L.length), (33, .int .i64 i)]) (fun _ _ => []) (-1) ⟨fun f hf => by have := (hL2 f hf).1; omega, hL1⟩ (Weak.sub (SubN.nil _)) (by omega) (fun i x r c hok hx hw => ?_) (fun c hok hn => ?_)
    · have hne := True.intro
      obtain ⟨hk1, hk2⟩ := hok
      obtain ⟨g1, g2, g3⟩ := hL2 x hx.mem
      have g4 := hk1 x (by simp)
      rw [List.map_cons, List.pairwise_cons] at hk2
      (repeat' (first | (with_reducible (first | refine ae (fun h => ?_) (fun h => ?_) | refine ag (fun h => ?_) (fun h => ?_) | refine aa (fun h => ?_) (fun h => ?_)) <;> (try simp only [Da, Db, Dc, Dw, De, Df, Dg, Dh] at h)) | (with_reducible refine And.intro (by omega) ?_)  | simp only [EVz, seval, ↓reduceIte, EV6, EV7, hx.yes, hx.le0, hx.lt', hx.get, hx.row, hw, Fnd.cs, hne] | simp only [EVz, seval, ↓reduceIte, EV6, EV7, hx.yes, hx.le0, hx.lt', hx.get, hx.row, hw, Fnd.cs] | (with_reducible intro blk hblk; (try (have hnx := hblk; simp only [EVK] at hnx; first | (have hne := And.intro hnx hne) | (have hne := hnx)))) | (with_reducible refine ak ?_ ?_) | (with_reducible refine am ?_) | (refine af hx x.at_ ⟨fun f hf => hk2.1 _ (List.mem_map.2 ⟨f, hf, rfl⟩), hk2.2⟩ ?_) | (exfalso; omega)))
      all_goals exact Weak.of ⟨AVle.rfl' _, AVle.rfl' _, AVle.rfl' _, AVle.rfl' _, AVle.rfl' _, AVle.rfl' _, AVle.rfl' _, trivial⟩ (SubN.nil _)
    · have e0 : decide ((L.length : Int) = (m.length : Int)) = true := decide_eq_true (by omega)
      (repeat' (first | (with_reducible (first | refine ae (fun h => ?_) (fun h => ?_) | refine ag (fun h => ?_) (fun h => ?_) | refine aa (fun h => ?_) (fun h => ?_)) <;> (try simp only [Da, Db, Dc, Dw, De, Df, Dg, Dh] at h)) | (with_reducible refine And.intro (by omega) ?_) | (with_reducible refine ab (hAw) ?_) | (with_reducible refine ab (hO) ?_) | simp only [EVz, seval, ↓reduceIte, EV6, EV7, hn, e0, hne] | simp only [EVz, seval, ↓reduceIte, EV6, EV7, hn, e0] | (with_reducible intro blk hblk; (try (have hnx := hblk; simp only [EVK] at hnx; first | (have hne := And.intro hnx hne) | (have hne := hnx)))) | (with_reducible refine ak ?_ ?_) | (with_reducible refine am ?_) | (exfalso; omega)))
      all_goals exact hR _ _ (.inl (.inl rfl))
end
end Go.Av
end
