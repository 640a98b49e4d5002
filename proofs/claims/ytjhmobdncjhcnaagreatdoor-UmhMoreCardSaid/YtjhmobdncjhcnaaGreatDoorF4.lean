/- Functions of the program, in the small language. -/
import Derived.Test.YtjhmobdncjhcnaaGreatDoorF1
namespace Go.Proofs.YtjhmobdncjhcnaaGreatDoor
open Go Go.V D
variable {args : List PV} {σ : VHeap} {Post : KP}
@[reducible] def vb89 : VC :=
  .seq (.region [m 1 (.box 0 (t 0)), m 2 (.alloc 1 [q, q, q, o, o, o, o, o, o, o, o, o, o, o, o, o, o, o, o, .nils, .nils])]) <|
  .seq (.region [m 4 (.field 0 (t 1)), m 5 (.load none (t 4)), m 6 (.field 1 (t 1)), m 7 (.load none (t 6)), m 8 (.field 91 (t 1)), m 9 (.load (some 17) (t 8)), m 10 (.build [q, q, q, o, o, o, o, o, o, o, o, o, o, o, o, o, o, o, o, .nils, .nils] [(0, 1, (t 5)), (1, 1, (t 7)), (2, 17, (t 9))]), m 3 (.alloc 2 [q, q, q, o, o, o, o, o, o, o, o, o, o, o, o, o, o, o, o, .nils, .nils]), e (.store 21 (t 3) (t 10))]) <|
  .seq (.seq (.region [m 11 (.field 1 (t 1)), m 12 (.load none (t 11))]) <|
  .block 0 <| .seq (.region [m 14 (.bin .eql .num (t 12) (.c (i 5))), m 13 (.mov (t 14))]) <|
  .cond (t 13) (.region [m 15 (.field 2 (t 1)), m 16 (.load (some 62) (t 15)), m 17 (.buildSlice 3 62 1 [q, o, o, o, o, o, o, o, o, q, q, o, o, o, o, o, o, o, o, o, o, o, o, o, o, o, o, q, o, o, o, o, o, o, o, o, o, o, o, o, o, o, o, o, q, o, o, o, o, o, o, o, o, o, o, o, o, o, o, o, o, (.str [])] [(0, (t 16))]), m 18 (.field 19 (t 3)), e (.store 1 (t 18) (t 17))]) (.seq (.region [m 20 (.bin .eql .num (t 12) (.c (i 128))), m 19 (.mov (t 20))]) <|
  .cond (t 19) (.region [m 21 (.field 64 (t 1)), m 22 (.load (some 27) (t 21)), m 23 (.buildSlice 4 27 1 [o, o, o, o, o, o, o, o, q, o, o, o, o, o, o, o, o, o, o, o, o, o, o, o, o, q, q] [(0, (t 22))]), m 24 (.field 20 (t 3)), e (.store 1 (t 24) (t 23))]) (.skip))) <|
  .seq (.region [m 25 (.load (some 21) (t 3)), e (.store 21 (t 2) (t 25))]) <|
  .ret
def vf89 : VFun := ⟨26, 5, vb89, [.cell 2 (some 21)], false⟩
theorem cf89 : cFun Tryz.prog rawF false Tryz.f89 = some vf89 := by kernel_rfl
theorem T89 (h : HT σ args Post vb89 vf89 [dd, dd, dd, dd, dd]) (hl : args.length ≤ 26 := by exact Nat.le_of_ble_eq_true rfl) : T Tryz.prog 89 args σ Post := T.walk Tryz.func89 cf89 hl rfl h
@[reducible] def vb39 : VC :=
  .seq (.region [m 1 (.box 0 (t 0)), m 2 (.mov (.c (.bool false)))]) <|
  .seq (.block 0 <| .seq (.seq (.region [m 4 (.field 1 (t 1)), m 5 (.load none (t 4)), m 6 (.bin .eql .num (t 5) (.c (i 5))), m 7 (.mov (t 6)), g 8 7 true (.field 64 (t 1)), g 9 7 true (.load (some 27) (t 8)), g 10 7 true (.build [o, o, o, o, o, o, o, o, q, o, o, o, o, o, o, o, o, o, o, o, o, o, o, o, o, q, q] []), g 11 7 true (.eqAgg [(.i .u8), (.i .u8), (.i .u8), (.i .u8), (.i .u8), (.i .u8), (.i .u8), (.i .u8), (.i .i64), (.i .u8), (.i .u8), (.i .u8), (.i .u8), (.i .u8), (.i .u8), (.i .u8), (.i .u8), (.i .u8), (.i .u8), (.i .u8), (.i .u8), (.i .u8), (.i .u8), (.i .u8), (.i .u8), (.i .i64), (.i .i64)] true (t 9) (t 10)), m 12 (.pick (t 7) (t 11) (.c (.bool false))), m 3 (.mov (t 12))]) <|
  .cond (t 3) (.skip) (.region [m 13 (.field 1 (t 1)), m 14 (.load none (t 13)), m 15 (.bin .eql .num (t 14) (.c (i 128))), m 16 (.mov (t 15)), g 17 16 true (.field 2 (t 1)), g 18 16 true (.load (some 62) (t 17)), g 19 16 true (.build [q, o, o, o, o, o, o, o, o, q, q, o, o, o, o, o, o, o, o, o, o, o, o, o, o, o, o, q, o, o, o, o, o, o, o, o, o, o, o, o, o, o, o, o, q, o, o, o, o, o, o, o, o, o, o, o, o, o, o, o, o, (.str [])] []), g 20 16 true (.eqAgg [(.i .i64), (.i .u8), (.i .u8), (.i .u8), (.i .u8), (.i .u8), (.i .u8), (.i .u8), (.i .u8), (.i .i64), (.i .i64), (.i .u8), (.i .u8), (.i .u8), (.i .u8), (.i .u8), (.i .u8), (.i .u8), (.i .u8), (.i .u8), (.i .u8), (.i .u8), (.i .u8), (.i .u8), (.i .u8), (.i .u8), (.i .u8), (.i .i64), (.i .u8), (.i .u8), (.i .u8), (.i .u8), (.i .u8), (.i .u8), (.i .u8), (.i .u8), (.i .u8), (.i .u8), (.i .u8), (.i .u8), (.i .u8), (.i .u8), (.i .u8), (.i .u8), (.i .i64), (.i .u8), (.i .u8), (.i .u8), (.i .u8), (.i .u8), (.i .u8), (.i .u8), (.i .u8), (.i .u8), (.i .u8), (.i .u8), (.i .u8), (.i .u8), (.i .u8), (.i .u8), (.i .u8), .s] true (t 18) (t 19)), m 21 (.pick (t 16) (t 20) (.c (.bool false))), m 3 (.mov (t 21))])) <|
  .cond (t 3) (.seq (.region [m 2 (.mov (.c (.bool false)))]) <|
  .ret) (.skip)) <|
  .seq (.dreg [(m 22 (.field 108 (t 1)), []), (m 23 (.load (some 24) (t 22)), [0]), (m 24 (.load (some 132) (t 1)), []), (m 25 (.call false 89 [(t 24)]), [2]), (m 26 (.buildSlice 1 21 1 [q, q, q, o, o, o, o, o, o, o, o, o, o, o, o, o, o, o, o, .nils, .nils] [(0, (t 25))]), [3]), (m 27 (.build [q, .nils, q, q, q, o, o, o, o, o, o, o, o, o, o, o, o, o, o, o, o, .nils, .nils, .nils, .nils, .nils] [(0, 24, (t 23)), (24, 1, (t 26))]), [1, 4]), (m 28 (.call false 88 [(t 27)]), [5, 3]), (m 2 (.mov (t 28)), [6, 6, 0, 1, 2, 3, 4, 5, 6])] [(2, 0), (2, 1), (1, 2), (1, 3), (0, 4), (2, 5), (1, 6), (2, 7)] [0, 1, 0, 4, 12, 31, 63, 127]) <|
  .ret
def vf39 : VFun := ⟨29, 2, vb39, [.tmp 2], false⟩
theorem cf39 : cFun Tryz.prog rawF false Tryz.f39 = some vf39 := by kernel_rfl
theorem T39 (h : HT σ args Post vb39 vf39 [dd, dd]) (hl : args.length ≤ 29 := by exact Nat.le_of_ble_eq_true rfl) : T Tryz.prog 39 args σ Post := T.walk Tryz.func39 cf39 hl rfl h
@[reducible] def vb40 : VC :=
  .seq (.region [m 1 (.box 0 (t 0)), m 2 (.mov (.c (.str [])))]) <|
  .seq (.region [m 7 (.field 0 (t 1)), m 8 (.load none (t 7)), m 9 (.convInt .u8 (t 8)), m 10 (.field 1 (t 1)), m 11 (.load none (t 10)), m 12 (.convInt .u8 (t 11)), m 13 (.buildSlice 1 1 2 [o] [(0, (t 9)), (1, (t 12))]), m 3 (.mov (t 13))]) <|
  .seq (.seq (.region [m 14 (.field 1 (t 1)), m 15 (.load none (t 14)), m 16 (.bin .eql .num (t 15) (.c (i 5)))]) <|
  .cond (t 16) (.seq (.region [m 18 (.field 2 (t 1)), m 19 (.load (some 62) (t 18)), m 20 (.call false 90 [(t 19)]), m 17 (.mov (t 20)), m 21 (.extract 0 (t 17)), m 22 (.extract 1 (t 17)), m 4 (.mov (t 21)), m 5 (.mov (t 22))]) <|
  .seq (.region [m 23 (.mov (t 3)), m 24 (.mov (t 4)), m 25 (.append 2 1 1 (t 23) (t 24)), m 26 (.b2s (t 25)), m 2 (.mov (t 26))]) <|
  .ret) (.skip)) <|
  .seq (.region [m 27 (.field 64 (t 1)), m 28 (.field 8 (t 27)), m 29 (.load (some 18) (t 28)), m 6 (.alloc 3 [q, o, o, o, o, o, o, o, o, o, o, o, o, o, o, o, o, q]), e (.store 18 (t 6) (t 29))]) <|
  .seq (.dreg [(m 30 (.mov (t 3)), []), (m 31 (.field 64 (t 1)), []), (m 32 (.field 0 (t 31)), [1]), (m 33 (.sliceArr 8 1 (t 32) none none), [2]), (m 34 (.append 4 1 1 (t 30) (t 33)), [0, 3]), (m 35 (.field 0 (t 6)), []), (m 36 (.field 0 (t 35)), [5]), (m 37 (.load none (t 36)), [6]), (m 38 (.convInt .u8 (t 37)), [7]), (m 39 (.buildSlice 5 1 1 [o] [(0, (t 38))]), [8]), (m 40 (.append 6 1 1 (t 34) (t 39)), [4, 9, 4]), (m 3 (.mov (t 40)), [10, 10, 0, 1, 2, 3, 4, 5, 6, 7, 8, 9, 10])] [(2, 0), (2, 1), (2, 2), (2, 3), (2, 5), (2, 6), (2, 7), (2, 8), (0, 4), (0, 9), (0, 10), (2, 11)] [0, 0, 2, 6, 15, 0, 32, 96, 224, 480, 1023, 2047]) <|
  .seq (.region [m 41 (.mov (t 3)), m 42 (.field 0 (t 6)), m 43 (.load (some 17) (t 42)), m 44 (.call false 57 [(t 43)]), m 45 (.append 7 1 1 (t 41) (t 44)), m 3 (.mov (t 45))]) <|
  .seq (.region [m 46 (.mov (t 3)), m 47 (.field 17 (t 6)), m 48 (.load none (t 47)), m 49 (.convInt .u8 (t 48)), m 50 (.buildSlice 8 1 1 [o] [(0, (t 49))]), m 51 (.append 9 1 1 (t 46) (t 50)), m 52 (.b2s (t 51)), m 2 (.mov (t 52))]) <|
  .ret
def vf40 : VFun := ⟨53, 10, vb40, [.tmp 2], false⟩
theorem cf40 : cFun Tryz.prog rawF false Tryz.f40 = some vf40 := by kernel_rfl
theorem T40 (h : HT σ args Post vb40 vf40 [dd, dd, dd, dd, dd, dd, dd, dd, dd, dd]) (hl : args.length ≤ 53 := by exact Nat.le_of_ble_eq_true rfl) : T Tryz.prog 40 args σ Post := T.walk Tryz.func40 cf40 hl rfl h
@[reducible] def vb15 : VC :=
  .seq (.region [m 1 (.box 0 (t 0)), m 2 (.mov (.c (.str []))), m 3 (.mov (.c (.bool false)))]) <|
  .seq (.seq (.region [m 4 (.load (some 132) (t 1)), m 5 (.call false 39 [(t 4)]), m 6 (.un .not (t 5))]) <|
  .cond (t 6) (.seq (.region [m 2 (.mov (.c (.str []))), m 3 (.mov (.c (.bool false)))]) <|
  .ret) (.skip)) <|
  .seq (.region [m 7 (.load (some 132) (t 1)), m 8 (.call false 40 [(t 7)]), m 2 (.mov (t 8)), m 3 (.mov (.c (.bool true)))]) <|
  .ret
def vf15 : VFun := ⟨9, 1, vb15, [.tmp 2, .tmp 3], false⟩
theorem cf15 : cFun Tryz.prog rawF false Tryz.f15 = some vf15 := by kernel_rfl
theorem T15 (h : HT σ args Post vb15 vf15 [dd]) (hl : args.length ≤ 9 := by exact Nat.le_of_ble_eq_true rfl) : T Tryz.prog 15 args σ Post := T.walk Tryz.func15 cf15 hl rfl h
@[reducible] def vb88 : VC :=
  .seq (.region [m 1 (.box 0 (t 0)), m 2 (.mov (.c (.bool false)))]) <|
  .seq (.block 0 <| .seq (.seq (.region [m 4 (.field 0 (t 1)), m 5 (.load (some 24) (t 4)), m 6 (.call false 137 [(t 5)]), m 7 (.un .not (t 6)), m 3 (.mov (t 7))]) <|
  .cond (t 3) (.skip) (.seq (.region [m 8 (.field 24 (t 1)), m 9 (.load none (t 8)), m 10 (.len (t 9)), m 11 (.bin .gtr .num (t 10) (.c (i 1))), m 3 (.mov (t 11))]) <|
  .cond (t 3) (.skip) (.region [m 12 (.field 25 (t 1)), m 13 (.load none (t 12)), m 14 (.len (t 13)), m 15 (.bin .gtr .num (t 14) (.c (i 1))), m 3 (.mov (t 15))]))) <|
  .cond (t 3) (.seq (.region [m 2 (.mov (.c (.bool false)))]) <|
  .ret) (.seq (.dreg [(m 17 (.field 24 (t 1)), []), (m 18 (.load none (t 17)), [0]), (m 19 (.len (t 18)), [1]), (m 20 (.bin .eql .num (t 19) (.c q)), [2]), (m 21 (.mov (t 20)), [3]), (g 22 21 true (.field 0 (t 1)), [4]), (g 23 21 true (.load (some 24) (t 22)), [5, 4]), (g 24 21 true (.call false 133 []), [4, 4]), (g 25 21 true (.call false 46 [(t 23), (t 24)]), [6, 7, 7, 4]), (g 26 21 true (.un .not (t 25)), [8, 4]), (m 27 (.pick (t 21) (t 26) (.c (.bool false))), [4, 9]), (m 16 (.mov (t 27)), [10, 8])] [(1, 0), (1, 1), (1, 2), (2, 3), (2, 4), (1, 5), (1, 6), (1, 7), (1, 8), (2, 9), (2, 10), (2, 11)] [0, 1, 3, 7, 15, 31, 63, 31, 255, 511, 1023, 2047]) <|
  .cond (t 16) (.seq (.region [m 2 (.mov (.c (.bool false)))]) <|
  .ret) (.seq (.region [m 29 (.field 24 (t 1)), m 30 (.load none (t 29)), m 31 (.call false 138 [(t 30), (.c (.fn 139 []))]), m 28 (.mov (t 31))]) <|
  .cond (t 28) (.seq (.region [m 2 (.mov (.c (.bool false)))]) <|
  .ret) (.skip)))) <|
  .seq (.region [m 32 (.field 25 (t 1)), m 33 (.load none (t 32)), m 34 (.call false 138 [(t 33), (.c (.fn 142 []))]), m 35 (.un .not (t 34)), m 2 (.mov (t 35))]) <|
  .ret
def vf88 : VFun := ⟨36, 1, vb88, [.tmp 2], false⟩
theorem cf88 : cFun Tryz.prog rawF false Tryz.f88 = some vf88 := by kernel_rfl
theorem T88 (h : HT σ args Post vb88 vf88 [dd]) (hl : args.length ≤ 36 := by exact Nat.le_of_ble_eq_true rfl) : T Tryz.prog 88 args σ Post := T.walk Tryz.func88 cf88 hl rfl h
@[reducible] def vb137 : VC :=
  .seq (.region [m 1 (.box 0 (t 0)), m 2 (.mov (.c (.bool false)))]) <|
  .seq (.block 0 <| .seq (.seq (.region [m 4 (.field 0 (t 1)), m 5 (.load none (t 4)), m 6 (.bin .lss .num (t 5) (.c q)), m 3 (.mov (t 6))]) <|
  .cond (t 3) (.skip) (.seq (.region [m 7 (.field 0 (t 1)), m 8 (.load none (t 7)), m 9 (.bin .gtr .num (t 8) (.c (i 2))), m 3 (.mov (t 9))]) <|
  .cond (t 3) (.skip) (.seq (.region [m 10 (.field 2 (t 1)), m 11 (.load none (t 10)), m 12 (.bin .lss .num (t 11) (.c (i (-1)))), m 3 (.mov (t 12))]) <|
  .cond (t 3) (.skip) (.seq (.region [m 13 (.field 2 (t 1)), m 14 (.load none (t 13)), m 15 (.bin .gtr .num (t 14) (.c (i 4294967295))), m 3 (.mov (t 15))]) <|
  .cond (t 3) (.skip) (.seq (.region [m 16 (.field 3 (t 1)), m 17 (.load none (t 16)), m 18 (.bin .lss .num (t 17) (.c (i (-1)))), m 3 (.mov (t 18))]) <|
  .cond (t 3) (.skip) (.region [m 19 (.field 3 (t 1)), m 20 (.load none (t 19)), m 21 (.bin .gtr .num (t 20) (.c (i 4294967295))), m 3 (.mov (t 21))])))))) <|
  .cond (t 3) (.seq (.region [m 2 (.mov (.c (.bool false)))]) <|
  .ret) (.seq (.region [m 23 (.field 4 (t 1)), m 24 (.load (some 17) (t 23)), m 25 (.build [q, o, o, o, o, o, o, o, o, o, o, o, o, o, o, o, o] []), m 26 (.eqAgg [(.i .i64), (.i .u8), (.i .u8), (.i .u8), (.i .u8), (.i .u8), (.i .u8), (.i .u8), (.i .u8), (.i .u8), (.i .u8), (.i .u8), (.i .u8), (.i .u8), (.i .u8), (.i .u8), (.i .u8)] true (t 24) (t 25)), m 27 (.mov (t 26)), g 28 27 true (.field 4 (t 1)), g 29 27 true (.load (some 17) (t 28)), g 30 27 true (.call false 174 [(t 29)]), g 31 27 true (.un .not (t 30)), m 32 (.pick (t 27) (t 31) (.c (.bool false))), m 22 (.mov (t 32))]) <|
  .cond (t 22) (.seq (.region [m 2 (.mov (.c (.bool false)))]) <|
  .ret) (.seq (.seq (.region [m 34 (.field 21 (t 1)), m 35 (.load none (t 34)), m 36 (.len (t 35)), m 37 (.bin .gtr .num (t 36) (.c (i 32))), m 33 (.mov (t 37))]) <|
  .cond (t 33) (.skip) (.seq (.region [m 38 (.field 22 (t 1)), m 39 (.load none (t 38)), m 40 (.len (t 39)), m 41 (.bin .gtr .num (t 40) (.c (i 64))), m 33 (.mov (t 41))]) <|
  .cond (t 33) (.skip) (.region [m 42 (.field 23 (t 1)), m 43 (.load none (t 42)), m 44 (.len (t 43)), m 45 (.bin .gtr .num (t 44) (.c (i 1))), m 33 (.mov (t 45))]))) <|
  .cond (t 33) (.seq (.region [m 2 (.mov (.c (.bool false)))]) <|
  .ret) (.seq (.region [m 47 (.field 21 (t 1)), m 48 (.load none (t 47)), m 49 (.call false 41 [(t 48), (.c (.fn 175 []))]), m 46 (.mov (t 49))]) <|
  .cond (t 46) (.seq (.region [m 2 (.mov (.c (.bool false)))]) <|
  .ret) (.seq (.region [m 51 (.field 23 (t 1)), m 52 (.load none (t 51)), m 53 (.call false 176 [(t 52), (.c (.fn 177 []))]), m 50 (.mov (t 53))]) <|
  .cond (t 50) (.seq (.region [m 2 (.mov (.c (.bool false)))]) <|
  .ret) (.skip)))))) <|
  .seq (.region [m 54 (.field 1 (t 1)), m 55 (.load none (t 54)), m 56 (.call false 179 [(t 55)]), m 2 (.mov (t 56))]) <|
  .ret
def vf137 : VFun := ⟨57, 1, vb137, [.tmp 2], false⟩
theorem cf137 : cFun Tryz.prog rawF false Tryz.f137 = some vf137 := by kernel_rfl
theorem T137 (h : HT σ args Post vb137 vf137 [dd]) (hl : args.length ≤ 57 := by exact Nat.le_of_ble_eq_true rfl) : T Tryz.prog 137 args σ Post := T.walk Tryz.func137 cf137 hl rfl h
@[reducible] def vb138 : VC :=
  .seq (.region [m 4 (.mov (.c (.bool false)))]) <|
  .seq (.region [m 5 (.mov (t 0)), m 6 (.mov (t 1)), m 7 (.call false 180 [(t 5), (t 6)]), m 8 (.bin .geq .num (t 7) (.c q)), m 4 (.mov (t 8))]) <|
  .ret
def vf138 : VFun := ⟨9, 0, vb138, [.tmp 4], false⟩
theorem cf138 : cFun Tryz.prog rawF false Tryz.f138 = some vf138 := by kernel_rfl
theorem T138 (h : HT σ args Post vb138 vf138 []) (hl : args.length ≤ 9 := by exact Nat.le_of_ble_eq_true rfl) : T Tryz.prog 138 args σ Post := T.walk Tryz.func138 cf138 hl rfl h
@[reducible] def vb139 : VC :=
  .seq (.region [m 1 (.box 0 (t 0)), m 2 (.mov (.c (.bool false)))]) <|
  .seq (.region [m 3 (.load (some 21) (t 1)), m 4 (.call false 140 [(t 3), (.c (.bool true))]), m 5 (.mov (t 4)), g 6 5 false (.load (some 21) (t 1)), g 7 5 false (.call false 141 [(t 6)]), g 8 5 false (.bin .eql .num (t 7) (.c q)), m 9 (.pick (t 5) (.c (.bool true)) (t 8)), m 2 (.mov (t 9))]) <|
  .ret
def vf139 : VFun := ⟨10, 1, vb139, [.tmp 2], false⟩
theorem cf139 : cFun Tryz.prog rawF false Tryz.f139 = some vf139 := by kernel_rfl
theorem T139 (h : HT σ args Post vb139 vf139 [dd]) (hl : args.length ≤ 10 := by exact Nat.le_of_ble_eq_true rfl) : T Tryz.prog 139 args σ Post := T.walk Tryz.func139 cf139 hl rfl h
@[reducible] def vb180 : VC :=
  .seq (.region [m 4 (.mov (.c q))]) <|
  .seq (.seq (.region [m 6 (.mov (t 0)), m 7 (.len (t 6)), m 8 (.mov (.c q))]) <|
  .block 0 <| .loop <| .seq (.region [m 9 (.bin .lss .num (t 8) (t 7))]) <|
  .seq (.cond (t 9) (.skip) (.exit 0)) <|
  .seq (.block 1 <| .seq (.region [m 10 (.mov (t 8)), m 5 (.mov (t 10))]) <|
  .seq (.region [m 11 (.mov (t 1)), m 12 (.mov (t 0)), m 13 (.mov (t 5)), m 14 (.index 21 (t 12) (t 13)), m 15 (.load (some 21) (t 14)), m 16 (.callV (t 11) [(t 15)])]) <|
  .cond (t 16) (.seq (.region [m 17 (.mov (t 5)), m 4 (.mov (t 17))]) <|
  .ret) (.skip)) <|
  .region [m 18 (.bin .add .num (t 8) (.c (i 1))), m 8 (.mov (t 18))]) <|
  .seq (.region [m 4 (.mov (.c (i (-1))))]) <|
  .ret
def vf180 : VFun := ⟨19, 0, vb180, [.tmp 4], false⟩
theorem cf180 : cFun Tryz.prog rawF false Tryz.f180 = some vf180 := by kernel_rfl
theorem T180 (h : HT σ args Post vb180 vf180 []) (hl : args.length ≤ 19 := by exact Nat.le_of_ble_eq_true rfl) : T Tryz.prog 180 args σ Post := T.walk Tryz.func180 cf180 hl rfl h
@[reducible] def vb140 : VC :=
  .seq (.region [m 2 (.box 0 (t 0)), m 4 (.mov (.c (.bool false)))]) <|
  .seq (.block 0 <| .seq (.seq (.region [m 9 (.field 0 (t 2)), m 10 (.load none (t 9)), m 11 (.bin .neq .num (t 10) (.c (i 4))), m 12 (.mov (t 11)), g 13 12 true (.field 0 (t 2)), g 14 12 true (.load none (t 13)), g 15 12 true (.bin .neq .num (t 14) (.c (i 16))), m 16 (.pick (t 12) (t 15) (.c (.bool false))), m 8 (.mov (t 16))]) <|
  .cond (t 8) (.skip) (.seq (.region [m 17 (.field 2 (t 2)), m 18 (.load (some 17) (t 17)), m 19 (.call false 54 [(t 18)]), m 20 (.un .not (t 19)), m 8 (.mov (t 20))]) <|
  .cond (t 8) (.skip) (.region [m 21 (.field 2 (t 2)), m 22 (.field 0 (t 21)), m 23 (.load none (t 22)), m 24 (.bin .gtr .num (t 23) (.c q)), m 25 (.mov (t 1)), m 26 (.bin .neq .bool (t 24) (t 25)), m 8 (.mov (t 26))]))) <|
  .cond (t 8) (.seq (.region [m 4 (.mov (.c (.bool true)))]) <|
  .ret) (.seq (.seq (.region [m 28 (.field 1 (t 2)), m 29 (.load none (t 28)), m 30 (.bin .eql .num (t 29) (.c (i 5))), m 31 (.mov (t 30)), g 32 31 true (.field 20 (t 2)), g 33 31 true (.load none (t 32)), g 34 31 true (.len (t 33)), g 35 31 true (.bin .eql .num (t 34) (.c q)), m 36 (.pick (t 31) (t 35) (.c (.bool false))), m 27 (.mov (t 36))]) <|
  .cond (t 27) (.skip) (.region [m 37 (.field 1 (t 2)), m 38 (.load none (t 37)), m 39 (.bin .eql .num (t 38) (.c (i 128))), m 40 (.mov (t 39)), g 41 40 true (.field 19 (t 2)), g 42 40 true (.load none (t 41)), g 43 40 true (.len (t 42)), g 44 40 true (.bin .eql .num (t 43) (.c q)), m 45 (.pick (t 40) (t 44) (.c (.bool false))), m 27 (.mov (t 45))])) <|
  .cond (t 27) (.seq (.region [m 47 (.load (some 21) (t 2)), m 48 (.call false 181 [(t 47)]), m 46 (.mov (t 48)), m 49 (.extract 0 (t 46)), m 50 (.extract 1 (t 46)), m 5 (.mov (t 49)), m 6 (.mov (t 50))]) <|
  .seq (.region [m 51 (.load (some 21) (t 2)), m 7 (.alloc 1 [q, q, q, o, o, o, o, o, o, o, o, o, o, o, o, o, o, o, o, .nils, .nils]), e (.store 21 (t 7) (t 51))]) <|
  .seq (.region [m 52 (.mov (t 6)), m 53 (.bin .neq .num (t 52) (.c q)), m 54 (.mov (t 53)), g 55 54 false (.mov (t 5)), g 56 54 false (.call false 182 [(t 7), (t 55)]), g 57 54 false (.bin .neq .num (t 56) (.c q)), m 58 (.pick (t 54) (.c (.bool true)) (t 57)), m 59 (.mov (t 58)), g 60 59 false (.load (some 21) (t 7)), g 61 59 false (.load (some 21) (t 2)), g 62 59 false (.call false 183 [(t 60), (t 61)]), g 63 59 false (.un .not (t 62)), m 64 (.pick (t 59) (.c (.bool true)) (t 63)), m 4 (.mov (t 64))]) <|
  .ret) (.skip))) <|
  .seq (.region [m 4 (.mov (.c (.bool true)))]) <|
  .ret
def vf140 : VFun := ⟨65, 2, vb140, [.tmp 4], false⟩
theorem cf140 : cFun Tryz.prog rawF false Tryz.f140 = some vf140 := by kernel_rfl
theorem T140 (h : HT σ args Post vb140 vf140 [dd, dd]) (hl : args.length ≤ 65 := by exact Nat.le_of_ble_eq_true rfl) : T Tryz.prog 140 args σ Post := T.walk Tryz.func140 cf140 hl rfl h
@[reducible] def vb141 : VC :=
  .seq (.region [m 1 (.box 0 (t 0)), m 2 (.mov (.c q))]) <|
  .seq (.region [m 3 (.field 19 (t 1)), m 4 (.load none (t 3)), m 5 (.len (t 4)), m 6 (.field 20 (t 1)), m 7 (.load none (t 6)), m 8 (.len (t 7)), m 9 (.bin .add .num (t 5) (t 8)), m 2 (.mov (t 9))]) <|
  .ret
def vf141 : VFun := ⟨10, 1, vb141, [.tmp 2], false⟩
theorem cf141 : cFun Tryz.prog rawF false Tryz.f141 = some vf141 := by kernel_rfl
theorem T141 (h : HT σ args Post vb141 vf141 [dd]) (hl : args.length ≤ 10 := by exact Nat.le_of_ble_eq_true rfl) : T Tryz.prog 141 args σ Post := T.walk Tryz.func141 cf141 hl rfl h
@[reducible] def vb174 : VC :=
  .seq (.region [m 1 (.box 0 (t 0)), m 2 (.mov (.c (.bool false)))]) <|
  .seq (.region [m 3 (.field 0 (t 1)), m 4 (.load none (t 3)), m 5 (.bin .eql .num (t 4) (.c (i 4))), m 6 (.mov (t 5)), g 7 6 true (.load (some 17) (t 1)), g 8 6 true (.call false 54 [(t 7)]), m 9 (.pick (t 6) (t 8) (.c (.bool false))), m 2 (.mov (t 9))]) <|
  .ret
def vf174 : VFun := ⟨10, 1, vb174, [.tmp 2], false⟩
theorem cf174 : cFun Tryz.prog rawF false Tryz.f174 = some vf174 := by kernel_rfl
theorem T174 (h : HT σ args Post vb174 vf174 [dd]) (hl : args.length ≤ 10 := by exact Nat.le_of_ble_eq_true rfl) : T Tryz.prog 174 args σ Post := T.walk Tryz.func174 cf174 hl rfl h
@[reducible] def vb175 : VC :=
  .seq (.region [m 1 (.box 0 (t 0)), m 2 (.mov (.c (.bool false)))]) <|
  .seq (.region [m 3 (.load (some 17) (t 1)), m 4 (.call false 174 [(t 3)]), m 5 (.un .not (t 4)), m 2 (.mov (t 5))]) <|
  .ret
def vf175 : VFun := ⟨6, 1, vb175, [.tmp 2], false⟩
theorem cf175 : cFun Tryz.prog rawF false Tryz.f175 = some vf175 := by kernel_rfl
theorem T175 (h : HT σ args Post vb175 vf175 [dd]) (hl : args.length ≤ 6 := by exact Nat.le_of_ble_eq_true rfl) : T Tryz.prog 175 args σ Post := T.walk Tryz.func175 cf175 hl rfl h
@[reducible] def vb91 : VC :=
  .seq (.region [m 4 (.mov (.c q))]) <|
  .seq (.seq (.region [m 6 (.mov (t 0)), m 7 (.len (t 6)), m 8 (.mov (.c q))]) <|
  .block 0 <| .loop <| .seq (.region [m 9 (.bin .lss .num (t 8) (t 7))]) <|
  .seq (.cond (t 9) (.skip) (.exit 0)) <|
  .seq (.block 1 <| .seq (.region [m 10 (.mov (t 8)), m 5 (.mov (t 10))]) <|
  .seq (.region [m 11 (.mov (t 1)), m 12 (.mov (t 0)), m 13 (.mov (t 5)), m 14 (.index 17 (t 12) (t 13)), m 15 (.load (some 17) (t 14)), m 16 (.callV (t 11) [(t 15)])]) <|
  .cond (t 16) (.seq (.region [m 17 (.mov (t 5)), m 4 (.mov (t 17))]) <|
  .ret) (.skip)) <|
  .region [m 18 (.bin .add .num (t 8) (.c (i 1))), m 8 (.mov (t 18))]) <|
  .seq (.region [m 4 (.mov (.c (i (-1))))]) <|
  .ret
def vf91 : VFun := ⟨19, 0, vb91, [.tmp 4], false⟩
theorem cf91 : cFun Tryz.prog rawF false Tryz.f91 = some vf91 := by kernel_rfl
theorem T91 (h : HT σ args Post vb91 vf91 []) (hl : args.length ≤ 19 := by exact Nat.le_of_ble_eq_true rfl) : T Tryz.prog 91 args σ Post := T.walk Tryz.func91 cf91 hl rfl h
@[reducible] def vb41 : VC :=
  .seq (.region [m 4 (.mov (.c (.bool false)))]) <|
  .seq (.region [m 5 (.mov (t 0)), m 6 (.mov (t 1)), m 7 (.call false 91 [(t 5), (t 6)]), m 8 (.bin .geq .num (t 7) (.c q)), m 4 (.mov (t 8))]) <|
  .ret
def vf41 : VFun := ⟨9, 0, vb41, [.tmp 4], false⟩
theorem cf41 : cFun Tryz.prog rawF false Tryz.f41 = some vf41 := by kernel_rfl
theorem T41 (h : HT σ args Post vb41 vf41 []) (hl : args.length ≤ 9 := by exact Nat.le_of_ble_eq_true rfl) : T Tryz.prog 41 args σ Post := T.walk Tryz.func41 cf41 hl rfl h
@[reducible] def vb176 : VC :=
  .seq (.region [m 4 (.mov (.c (.bool false)))]) <|
  .seq (.region [m 5 (.mov (t 0)), m 6 (.mov (t 1)), m 7 (.call false 204 [(t 5), (t 6)]), m 8 (.bin .geq .num (t 7) (.c q)), m 4 (.mov (t 8))]) <|
  .ret
def vf176 : VFun := ⟨9, 0, vb176, [.tmp 4], false⟩
theorem cf176 : cFun Tryz.prog rawF false Tryz.f176 = some vf176 := by kernel_rfl
theorem T176 (h : HT σ args Post vb176 vf176 []) (hl : args.length ≤ 9 := by exact Nat.le_of_ble_eq_true rfl) : T Tryz.prog 176 args σ Post := T.walk Tryz.func176 cf176 hl rfl h
@[reducible] def vb177 : VC :=
  .seq (.region [m 1 (.box 0 (t 0)), m 2 (.mov (.c (.bool false)))]) <|
  .seq (.region [m 3 (.load (some 21) (t 1)), m 4 (.call false 178 [(t 3)]), m 5 (.un .not (t 4)), m 2 (.mov (t 5))]) <|
  .ret
def vf177 : VFun := ⟨6, 1, vb177, [.tmp 2], false⟩
theorem cf177 : cFun Tryz.prog rawF false Tryz.f177 = some vf177 := by kernel_rfl
theorem T177 (h : HT σ args Post vb177 vf177 [dd]) (hl : args.length ≤ 6 := by exact Nat.le_of_ble_eq_true rfl) : T Tryz.prog 177 args σ Post := T.walk Tryz.func177 cf177 hl rfl h
@[reducible] def vb204 : VC :=
  .seq (.region [m 4 (.mov (.c q))]) <|
  .seq (.seq (.region [m 6 (.mov (t 0)), m 7 (.len (t 6)), m 8 (.mov (.c q))]) <|
  .block 0 <| .loop <| .seq (.region [m 9 (.bin .lss .num (t 8) (t 7))]) <|
  .seq (.cond (t 9) (.skip) (.exit 0)) <|
  .seq (.block 1 <| .seq (.region [m 10 (.mov (t 8)), m 5 (.mov (t 10))]) <|
  .seq (.region [m 11 (.mov (t 1)), m 12 (.mov (t 0)), m 13 (.mov (t 5)), m 14 (.index 21 (t 12) (t 13)), m 15 (.load (some 21) (t 14)), m 16 (.callV (t 11) [(t 15)])]) <|
  .cond (t 16) (.seq (.region [m 17 (.mov (t 5)), m 4 (.mov (t 17))]) <|
  .ret) (.skip)) <|
  .region [m 18 (.bin .add .num (t 8) (.c (i 1))), m 8 (.mov (t 18))]) <|
  .seq (.region [m 4 (.mov (.c (i (-1))))]) <|
  .ret
def vf204 : VFun := ⟨19, 0, vb204, [.tmp 4], false⟩
theorem cf204 : cFun Tryz.prog rawF false Tryz.f204 = some vf204 := by kernel_rfl
theorem T204 (h : HT σ args Post vb204 vf204 []) (hl : args.length ≤ 19 := by exact Nat.le_of_ble_eq_true rfl) : T Tryz.prog 204 args σ Post := T.walk Tryz.func204 cf204 hl rfl h
@[reducible] def vb178 : VC :=
  .seq (.region [m 1 (.box 0 (t 0)), m 2 (.mov (.c (.bool false)))]) <|
  .seq (.seq (.region [m 5 (.field 3 (t 1)), m 6 (.load (some 17) (t 5)), m 7 (.call false 54 [(t 6)]), m 8 (.un .not (t 7)), m 9 (.mov (t 8)), g 10 9 false (.field 2 (t 1)), g 11 9 false (.load none (t 10)), g 12 9 false (.bin .lss .num (t 11) (.c q)), m 13 (.pick (t 9) (.c (.bool true)) (t 12)), m 14 (.mov (t 13)), g 15 14 false (.field 2 (t 1)), g 16 14 false (.load none (t 15)), g 17 14 false (.bin .gtr .num (t 16) (.c (i 1048575))), m 18 (.pick (t 14) (.c (.bool true)) (t 17))]) <|
  .cond (t 18) (.seq (.region [m 2 (.mov (.c (.bool false)))]) <|
  .ret) (.skip)) <|
  .seq (.seq (.region [m 19 (.field 1 (t 1)), m 20 (.load none (t 19))]) <|
  .block 0 <| .seq (.region [m 22 (.bin .eql .num (t 20) (.c q)), m 21 (.mov (t 22))]) <|
  .cond (t 21) (.seq (.region [m 23 (.field 3 (t 1)), m 24 (.field 0 (t 23)), m 25 (.load none (t 24)), m 26 (.field 20 (t 1)), m 27 (.load none (t 26)), m 28 (.len (t 27)), m 29 (.bin .add .num (t 25) (t 28)), m 30 (.bin .eql .num (t 29) (.c q)), m 2 (.mov (t 30))]) <|
  .ret) (.seq (.region [m 32 (.bin .eql .num (t 20) (.c (i 1))), m 31 (.mov (t 32))]) <|
  .cond (t 31) (.seq (.region [m 33 (.field 3 (t 1)), m 34 (.field 0 (t 33)), m 35 (.load none (t 34)), m 36 (.bin .eql .num (t 35) (.c (i 4))), m 37 (.mov (t 36)), g 38 37 true (.field 20 (t 1)), g 39 37 true (.load none (t 38)), g 40 37 true (.len (t 39)), g 41 37 true (.bin .eql .num (t 40) (.c (i 6))), m 42 (.pick (t 37) (t 41) (.c (.bool false))), m 2 (.mov (t 42))]) <|
  .ret) (.seq (.seq (.region [m 44 (.bin .eql .num (t 20) (.c (i 2))), m 43 (.mov (t 44))]) <|
  .cond (t 43) (.skip) (.region [m 45 (.bin .eql .num (t 20) (.c (i 7))), m 43 (.mov (t 45))])) <|
  .cond (t 43) (.seq (.region [m 46 (.field 3 (t 1)), m 47 (.field 0 (t 46)), m 48 (.load none (t 47)), m 49 (.bin .gtr .num (t 48) (.c q)), m 50 (.mov (t 49)), g 51 50 true (.field 20 (t 1)), g 52 50 true (.load none (t 51)), g 53 50 true (.len (t 52)), g 54 50 true (.bin .leq .num (t 53) (.c (i 64))), m 55 (.pick (t 50) (t 54) (.c (.bool false))), m 2 (.mov (t 55))]) <|
  .ret) (.seq (.seq (.region [m 57 (.bin .eql .num (t 20) (.c (i 3))), m 56 (.mov (t 57))]) <|
  .cond (t 56) (.skip) (.seq (.region [m 58 (.bin .eql .num (t 20) (.c (i 4))), m 56 (.mov (t 58))]) <|
  .cond (t 56) (.skip) (.region [m 59 (.bin .eql .num (t 20) (.c (i 5))), m 56 (.mov (t 59))]))) <|
  .cond (t 56) (.seq (.region [m 61 (.field 20 (t 1)), m 62 (.load none (t 61)), m 63 (.call false 148 [(t 62)]), m 60 (.mov (t 63)), m 64 (.extract 0 (t 60)), m 65 (.extract 1 (t 60)), m 3 (.alloc 1 [q, o, o, o, o, o, o, o, o, o, o, o, o, o, o, o, o]), e (.store 17 (t 3) (t 64)), m 4 (.mov (t 65))]) <|
  .seq (.region [m 66 (.mov (t 4)), m 67 (.bin .eql .num (t 66) (.c q)), m 68 (.mov (t 67)), g 69 68 true (.field 0 (t 3)), g 70 68 true (.load none (t 69)), g 71 68 true (.field 3 (t 1)), g 72 68 true (.field 0 (t 71)), g 73 68 true (.load none (t 72)), g 74 68 true (.bin .eql .num (t 70) (t 73)), m 75 (.pick (t 68) (t 74) (.c (.bool false))), m 76 (.mov (t 75)), g 77 76 true (.load (some 17) (t 3)), g 78 76 true (.call false 65 [(t 77)]), m 79 (.pick (t 76) (t 78) (.c (.bool false))), m 2 (.mov (t 79))]) <|
  .ret) (.seq (.region [m 81 (.bin .eql .num (t 20) (.c (i 6))), m 80 (.mov (t 81))]) <|
  .cond (t 80) (.seq (.region [m 82 (.field 3 (t 1)), m 83 (.field 0 (t 82)), m 84 (.load none (t 83)), m 85 (.bin .gtr .num (t 84) (.c q)), m 86 (.mov (t 85)), g 87 86 true (.field 20 (t 1)), g 88 86 true (.load none (t 87)), g 89 86 true (.len (t 88)), g 90 86 true (.bin .eql .num (t 89) (.c q)), m 91 (.pick (t 86) (t 90) (.c (.bool false))), m 2 (.mov (t 91))]) <|
  .ret) (.skip)))))) <|
  .seq (.region [m 2 (.mov (.c (.bool false)))]) <|
  .ret
def vf178 : VFun := ⟨92, 2, vb178, [.tmp 2], false⟩
theorem cf178 : cFun Tryz.prog rawF false Tryz.f178 = some vf178 := by kernel_rfl
theorem T178 (h : HT σ args Post vb178 vf178 [dd, dd]) (hl : args.length ≤ 92 := by exact Nat.le_of_ble_eq_true rfl) : T Tryz.prog 178 args σ Post := T.walk Tryz.func178 cf178 hl rfl h
@[reducible] def vb179 : VC :=
  .seq (.region [m 2 (.mov (.c (.bool false)))]) <|
  .seq (.region [m 3 (.mov (t 0)), m 4 (.len (t 3)), m 5 (.bin .leq .num (t 4) (.c (i 16))), m 6 (.mov (t 5)), g 7 6 true (.mov (t 0)), g 8 6 true (.call false 43 [(t 7), (.c (.fn 205 []))]), g 9 6 true (.un .not (t 8)), m 10 (.pick (t 6) (t 9) (.c (.bool false))), m 2 (.mov (t 10))]) <|
  .ret
def vf179 : VFun := ⟨11, 0, vb179, [.tmp 2], false⟩
theorem cf179 : cFun Tryz.prog rawF false Tryz.f179 = some vf179 := by kernel_rfl
theorem T179 (h : HT σ args Post vb179 vf179 []) (hl : args.length ≤ 11 := by exact Nat.le_of_ble_eq_true rfl) : T Tryz.prog 179 args σ Post := T.walk Tryz.func179 cf179 hl rfl h
@[reducible] def vb205 : VC :=
  .seq (.region [m 1 (.box 0 (t 0)), m 2 (.mov (.c (.bool false)))]) <|
  .seq (.region [m 3 (.field 1 (t 1)), m 4 (.load none (t 3)), m 5 (.len (t 4)), m 6 (.bin .lss .num (t 5) (.c (i 1))), m 7 (.mov (t 6)), g 8 7 false (.field 1 (t 1)), g 9 7 false (.load none (t 8)), g 10 7 false (.len (t 9)), g 11 7 false (.bin .gtr .num (t 10) (.c (i 255))), m 12 (.pick (t 7) (.c (.bool true)) (t 11)), m 13 (.mov (t 12)), g 14 13 false (.field 1 (t 1)), g 15 13 false (.load none (t 14)), g 16 13 false (.call false 236 [(t 15), (.c (.fn 237 []))]), m 17 (.pick (t 13) (.c (.bool true)) (t 16)), m 2 (.mov (t 17))]) <|
  .ret
def vf205 : VFun := ⟨18, 1, vb205, [.tmp 2], false⟩
theorem cf205 : cFun Tryz.prog rawF false Tryz.f205 = some vf205 := by kernel_rfl
theorem T205 (h : HT σ args Post vb205 vf205 [dd]) (hl : args.length ≤ 18 := by exact Nat.le_of_ble_eq_true rfl) : T Tryz.prog 205 args σ Post := T.walk Tryz.func205 cf205 hl rfl h
@[reducible] def vb236 : VC :=
  .seq (.region [m 4 (.mov (.c (.bool false)))]) <|
  .seq (.region [m 5 (.mov (t 0)), m 6 (.mov (t 1)), m 7 (.call false 253 [(t 5), (t 6)]), m 8 (.bin .geq .num (t 7) (.c q)), m 4 (.mov (t 8))]) <|
  .ret
def vf236 : VFun := ⟨9, 0, vb236, [.tmp 4], false⟩
theorem cf236 : cFun Tryz.prog rawF false Tryz.f236 = some vf236 := by kernel_rfl
theorem T236 (h : HT σ args Post vb236 vf236 []) (hl : args.length ≤ 9 := by exact Nat.le_of_ble_eq_true rfl) : T Tryz.prog 236 args σ Post := T.walk Tryz.func236 cf236 hl rfl h
@[reducible] def vb253 : VC :=
  .seq (.region [m 4 (.mov (.c q))]) <|
  .seq (.seq (.region [m 6 (.mov (t 0)), m 7 (.len (t 6)), m 8 (.mov (.c q))]) <|
  .block 0 <| .loop <| .seq (.region [m 9 (.bin .lss .num (t 8) (t 7))]) <|
  .seq (.cond (t 9) (.skip) (.exit 0)) <|
  .seq (.block 1 <| .seq (.region [m 10 (.mov (t 8)), m 5 (.mov (t 10))]) <|
  .seq (.region [m 11 (.mov (t 1)), m 12 (.mov (t 0)), m 13 (.mov (t 5)), m 14 (.index 1 (t 12) (t 13)), m 15 (.load none (t 14)), m 16 (.callV (t 11) [(t 15)])]) <|
  .cond (t 16) (.seq (.region [m 17 (.mov (t 5)), m 4 (.mov (t 17))]) <|
  .ret) (.skip)) <|
  .region [m 18 (.bin .add .num (t 8) (.c (i 1))), m 8 (.mov (t 18))]) <|
  .seq (.region [m 4 (.mov (.c (i (-1))))]) <|
  .ret
def vf253 : VFun := ⟨19, 0, vb253, [.tmp 4], false⟩
theorem cf253 : cFun Tryz.prog rawF false Tryz.f253 = some vf253 := by kernel_rfl
theorem T253 (h : HT σ args Post vb253 vf253 []) (hl : args.length ≤ 19 := by exact Nat.le_of_ble_eq_true rfl) : T Tryz.prog 253 args σ Post := T.walk Tryz.func253 cf253 hl rfl h
@[reducible] def vb237 : VC :=
  .seq (.region [m 2 (.mov (.c (.bool false)))]) <|
  .seq (.region [m 3 (.mov (t 0)), m 4 (.bin .lss .num (t 3) (.c q)), m 5 (.mov (t 4)), g 6 5 false (.mov (t 0)), g 7 5 false (.bin .gtr .num (t 6) (.c (i 4294967295))), m 8 (.pick (t 5) (.c (.bool true)) (t 7)), m 2 (.mov (t 8))]) <|
  .ret
def vf237 : VFun := ⟨9, 0, vb237, [.tmp 2], false⟩
theorem cf237 : cFun Tryz.prog rawF false Tryz.f237 = some vf237 := by kernel_rfl
theorem T237 (h : HT σ args Post vb237 vf237 []) (hl : args.length ≤ 9 := by exact Nat.le_of_ble_eq_true rfl) : T Tryz.prog 237 args σ Post := T.walk Tryz.func237 cf237 hl rfl h
@[reducible] def vb43 : VC :=
  .seq (.region [m 4 (.mov (.c (.bool false)))]) <|
  .seq (.region [m 5 (.mov (t 0)), m 6 (.mov (t 1)), m 7 (.call false 92 [(t 5), (t 6)]), m 8 (.bin .geq .num (t 7) (.c q)), m 4 (.mov (t 8))]) <|
  .ret
def vf43 : VFun := ⟨9, 0, vb43, [.tmp 4], false⟩
theorem cf43 : cFun Tryz.prog rawF false Tryz.f43 = some vf43 := by kernel_rfl
theorem T43 (h : HT σ args Post vb43 vf43 []) (hl : args.length ≤ 9 := by exact Nat.le_of_ble_eq_true rfl) : T Tryz.prog 43 args σ Post := T.walk Tryz.func43 cf43 hl rfl h
@[reducible] def vb92 : VC :=
  .seq (.region [m 4 (.mov (.c q))]) <|
  .seq (.seq (.region [m 6 (.mov (t 0)), m 7 (.len (t 6)), m 8 (.mov (.c q))]) <|
  .block 0 <| .loop <| .seq (.region [m 9 (.bin .lss .num (t 8) (t 7))]) <|
  .seq (.cond (t 9) (.skip) (.exit 0)) <|
  .seq (.block 1 <| .seq (.region [m 10 (.mov (t 8)), m 5 (.mov (t 10))]) <|
  .seq (.region [m 11 (.mov (t 1)), m 12 (.mov (t 0)), m 13 (.mov (t 5)), m 14 (.index 2 (t 12) (t 13)), m 15 (.load (some 2) (t 14)), m 16 (.callV (t 11) [(t 15)])]) <|
  .cond (t 16) (.seq (.region [m 17 (.mov (t 5)), m 4 (.mov (t 17))]) <|
  .ret) (.skip)) <|
  .region [m 18 (.bin .add .num (t 8) (.c (i 1))), m 8 (.mov (t 18))]) <|
  .seq (.region [m 4 (.mov (.c (i (-1))))]) <|
  .ret
def vf92 : VFun := ⟨19, 0, vb92, [.tmp 4], false⟩
theorem cf92 : cFun Tryz.prog rawF false Tryz.f92 = some vf92 := by kernel_rfl
theorem T92 (h : HT σ args Post vb92 vf92 []) (hl : args.length ≤ 19 := by exact Nat.le_of_ble_eq_true rfl) : T Tryz.prog 92 args σ Post := T.walk Tryz.func92 cf92 hl rfl h
@[reducible] def vb181 : VC :=
  .seq (.region [m 1 (.box 0 (t 0)), m 2 (.newRow 1 1), m 3 (.mov (.c q))]) <|
  .seq (.seq (.region [m 4 (.field 1 (t 1)), m 5 (.load none (t 4)), m 6 (.bin .eql .num (t 5) (.c (i 5)))]) <|
  .cond (t 6) (.seq (.region [m 7 (.field 19 (t 1)), m 8 (.load none (t 7)), m 9 (.call false 206 [(t 8)]), m 10 (.extract 0 (t 9)), m 11 (.extract 1 (t 9)), m 2 (.mov (t 10)), m 3 (.mov (t 11))]) <|
  .ret) (.skip)) <|
  .seq (.region [m 12 (.field 20 (t 1)), m 13 (.load none (t 12)), m 14 (.call false 207 [(t 13)]), m 15 (.extract 0 (t 14)), m 16 (.extract 1 (t 14)), m 2 (.mov (t 15)), m 3 (.mov (t 16))]) <|
  .ret
def vf181 : VFun := ⟨17, 2, vb181, [.tmp 2, .tmp 3], false⟩
theorem cf181 : cFun Tryz.prog rawF false Tryz.f181 = some vf181 := by kernel_rfl
theorem T181 (h : HT σ args Post vb181 vf181 [dd, dd]) (hl : args.length ≤ 17 := by exact Nat.le_of_ble_eq_true rfl) : T Tryz.prog 181 args σ Post := T.walk Tryz.func181 cf181 hl rfl h
@[reducible] def vb182 : VC :=
  .seq (.region [m 4 (.mov (.c q))]) <|
  .seq (.seq (.region [m 5 (.mov (t 0)), m 6 (.nilCheck (t 5)), m 7 (.field 1 (t 6)), m 8 (.load none (t 7)), m 9 (.bin .eql .num (t 8) (.c (i 5)))]) <|
  .cond (t 9) (.region [m 11 (.mov (t 0)), m 12 (.mov (t 1)), m 13 (.mov (t 0)), m 14 (.nilCheck (t 13)), m 15 (.field 0 (t 14)), m 16 (.load none (t 15)), m 17 (.call false 208 [(t 12), (t 16)]), m 10 (.mov (t 17)), m 18 (.extract 0 (t 10)), m 19 (.extract 1 (t 10)), m 20 (.nilCheck (t 11)), m 21 (.field 19 (t 20)), e (.store 1 (t 21) (t 18)), m 4 (.mov (t 19))]) (.region [m 23 (.mov (t 0)), m 24 (.mov (t 1)), m 25 (.mov (t 0)), m 26 (.nilCheck (t 25)), m 27 (.field 0 (t 26)), m 28 (.load none (t 27)), m 29 (.call false 209 [(t 24), (t 28)]), m 22 (.mov (t 29)), m 30 (.extract 0 (t 22)), m 31 (.extract 1 (t 22)), m 32 (.nilCheck (t 23)), m 33 (.field 20 (t 32)), e (.store 1 (t 33) (t 30)), m 4 (.mov (t 31))])) <|
  .seq (.region [m 34 (.mov (t 4)), m 4 (.mov (t 34))]) <|
  .ret
def vf182 : VFun := ⟨35, 0, vb182, [.tmp 4], false⟩
theorem cf182 : cFun Tryz.prog rawF false Tryz.f182 = some vf182 := by kernel_rfl
theorem T182 (h : HT σ args Post vb182 vf182 []) (hl : args.length ≤ 35 := by exact Nat.le_of_ble_eq_true rfl) : T Tryz.prog 182 args σ Post := T.walk Tryz.func182 cf182 hl rfl h
@[reducible] def vb183 : VC :=
  .seq (.region [m 2 (.box 0 (t 0)), m 3 (.box 1 (t 1)), m 4 (.mov (.c (.bool false)))]) <|
  .seq (.region [m 6 (.field 0 (t 2)), m 7 (.load none (t 6)), m 8 (.field 0 (t 3)), m 9 (.load none (t 8)), m 10 (.bin .eql .num (t 7) (t 9)), m 11 (.mov (t 10)), g 12 11 true (.field 1 (t 2)), g 13 11 true (.load none (t 12)), g 14 11 true (.field 1 (t 3)), g 15 11 true (.load none (t 14)), g 16 11 true (.bin .eql .num (t 13) (t 15)), m 17 (.pick (t 11) (t 16) (.c (.bool false))), m 18 (.mov (t 17)), g 19 18 true (.field 2 (t 2)), g 20 18 true (.load (some 17) (t 19)), g 21 18 true (.field 2 (t 3)), g 22 18 true (.load (some 17) (t 21)), g 23 18 true (.eqAgg [(.i .i64), (.i .u8), (.i .u8), (.i .u8), (.i .u8), (.i .u8), (.i .u8), (.i .u8), (.i .u8), (.i .u8), (.i .u8), (.i .u8), (.i .u8), (.i .u8), (.i .u8), (.i .u8), (.i .u8)] false (t 20) (t 22)), m 24 (.pick (t 18) (t 23) (.c (.bool false))), m 5 (.mov (t 24))]) <|
  .seq (.region [m 25 (.mov (t 5)), m 26 (.mov (t 25)), g 27 26 true (.field 19 (t 2)), g 28 26 true (.load none (t 27)), g 29 26 true (.field 19 (t 3)), g 30 26 true (.load none (t 29)), g 31 26 true (.call false 210 [(t 28), (t 30)]), m 32 (.pick (t 26) (t 31) (.c (.bool false))), m 33 (.mov (t 32)), g 34 33 true (.field 20 (t 2)), g 35 33 true (.load none (t 34)), g 36 33 true (.field 20 (t 3)), g 37 33 true (.load none (t 36)), g 38 33 true (.call false 211 [(t 35), (t 37)]), m 39 (.pick (t 33) (t 38) (.c (.bool false))), m 4 (.mov (t 39))]) <|
  .ret
def vf183 : VFun := ⟨40, 2, vb183, [.tmp 4], false⟩
theorem cf183 : cFun Tryz.prog rawF false Tryz.f183 = some vf183 := by kernel_rfl
theorem T183 (h : HT σ args Post vb183 vf183 [dd, dd]) (hl : args.length ≤ 40 := by exact Nat.le_of_ble_eq_true rfl) : T Tryz.prog 183 args σ Post := T.walk Tryz.func183 cf183 hl rfl h
@[reducible] def vb210 : VC :=
  .seq (.region [m 4 (.mov (.c (.bool false)))]) <|
  .seq (.seq (.region [m 6 (.mov (t 0)), m 7 (.len (t 6)), m 8 (.mov (t 1)), m 9 (.len (t 8)), m 10 (.bin .neq .num (t 7) (t 9))]) <|
  .cond (t 10) (.seq (.region [m 4 (.mov (.c (.bool false)))]) <|
  .ret) (.skip)) <|
  .seq (.seq (.region [m 11 (.mov (t 0)), m 12 (.len (t 11)), m 13 (.mov (.c q))]) <|
  .block 0 <| .loop <| .seq (.region [m 14 (.bin .lss .num (t 13) (t 12))]) <|
  .seq (.cond (t 14) (.skip) (.exit 0)) <|
  .seq (.block 1 <| .seq (.region [m 15 (.mov (t 13)), m 5 (.mov (t 15))]) <|
  .seq (.dreg [(m 16 (.mov (t 0)), []), (m 17 (.mov (t 5)), []), (m 18 (.index 62 (t 16) (t 17)), [0, 1]), (m 19 (.load (some 62) (t 18)), [2]), (m 20 (.mov (t 1)), []), (m 21 (.mov (t 5)), []), (m 22 (.index 62 (t 20) (t 21)), [4, 5]), (m 23 (.load (some 62) (t 22)), [6]), (m 24 (.eqAgg [(.i .i64), (.i .u8), (.i .u8), (.i .u8), (.i .u8), (.i .u8), (.i .u8), (.i .u8), (.i .u8), (.i .i64), (.i .i64), (.i .u8), (.i .u8), (.i .u8), (.i .u8), (.i .u8), (.i .u8), (.i .u8), (.i .u8), (.i .u8), (.i .u8), (.i .u8), (.i .u8), (.i .u8), (.i .u8), (.i .u8), (.i .u8), (.i .i64), (.i .u8), (.i .u8), (.i .u8), (.i .u8), (.i .u8), (.i .u8), (.i .u8), (.i .u8), (.i .u8), (.i .u8), (.i .u8), (.i .u8), (.i .u8), (.i .u8), (.i .u8), (.i .u8), (.i .i64), (.i .u8), (.i .u8), (.i .u8), (.i .u8), (.i .u8), (.i .u8), (.i .u8), (.i .u8), (.i .u8), (.i .u8), (.i .u8), (.i .u8), (.i .u8), (.i .u8), (.i .u8), (.i .u8), .s] true (t 19) (t 23)), [3, 7])] [(2, 0), (2, 1), (1, 2), (1, 3), (2, 4), (2, 5), (1, 6), (1, 7), (2, 8)] [0, 0, 3, 7, 0, 0, 48, 112, 255]) <|
  .cond (t 24) (.seq (.region [m 4 (.mov (.c (.bool false)))]) <|
  .ret) (.skip)) <|
  .region [m 25 (.bin .add .num (t 13) (.c (i 1))), m 13 (.mov (t 25))]) <|
  .seq (.region [m 4 (.mov (.c (.bool true)))]) <|
  .ret
def vf210 : VFun := ⟨26, 0, vb210, [.tmp 4], false⟩
theorem cf210 : cFun Tryz.prog rawF false Tryz.f210 = some vf210 := by kernel_rfl
theorem T210 (h : HT σ args Post vb210 vf210 []) (hl : args.length ≤ 26 := by exact Nat.le_of_ble_eq_true rfl) : T Tryz.prog 210 args σ Post := T.walk Tryz.func210 cf210 hl rfl h
@[reducible] def vb211 : VC :=
  .seq (.region [m 4 (.mov (.c (.bool false)))]) <|
  .seq (.seq (.region [m 6 (.mov (t 0)), m 7 (.len (t 6)), m 8 (.mov (t 1)), m 9 (.len (t 8)), m 10 (.bin .neq .num (t 7) (t 9))]) <|
  .cond (t 10) (.seq (.region [m 4 (.mov (.c (.bool false)))]) <|
  .ret) (.skip)) <|
  .seq (.seq (.region [m 11 (.mov (t 0)), m 12 (.len (t 11)), m 13 (.mov (.c q))]) <|
  .block 0 <| .loop <| .seq (.region [m 14 (.bin .lss .num (t 13) (t 12))]) <|
  .seq (.cond (t 14) (.skip) (.exit 0)) <|
  .seq (.block 1 <| .seq (.region [m 15 (.mov (t 13)), m 5 (.mov (t 15))]) <|
  .seq (.dreg [(m 16 (.mov (t 0)), []), (m 17 (.mov (t 5)), []), (m 18 (.index 27 (t 16) (t 17)), [0, 1]), (m 19 (.load (some 27) (t 18)), [2]), (m 20 (.mov (t 1)), []), (m 21 (.mov (t 5)), []), (m 22 (.index 27 (t 20) (t 21)), [4, 5]), (m 23 (.load (some 27) (t 22)), [6]), (m 24 (.eqAgg [(.i .u8), (.i .u8), (.i .u8), (.i .u8), (.i .u8), (.i .u8), (.i .u8), (.i .u8), (.i .i64), (.i .u8), (.i .u8), (.i .u8), (.i .u8), (.i .u8), (.i .u8), (.i .u8), (.i .u8), (.i .u8), (.i .u8), (.i .u8), (.i .u8), (.i .u8), (.i .u8), (.i .u8), (.i .u8), (.i .i64), (.i .i64)] true (t 19) (t 23)), [3, 7])] [(2, 0), (2, 1), (1, 2), (1, 3), (2, 4), (2, 5), (1, 6), (1, 7), (2, 8)] [0, 0, 3, 7, 0, 0, 48, 112, 255]) <|
  .cond (t 24) (.seq (.region [m 4 (.mov (.c (.bool false)))]) <|
  .ret) (.skip)) <|
  .region [m 25 (.bin .add .num (t 13) (.c (i 1))), m 13 (.mov (t 25))]) <|
  .seq (.region [m 4 (.mov (.c (.bool true)))]) <|
  .ret
def vf211 : VFun := ⟨26, 0, vb211, [.tmp 4], false⟩
theorem cf211 : cFun Tryz.prog rawF false Tryz.f211 = some vf211 := by kernel_rfl
theorem T211 (h : HT σ args Post vb211 vf211 []) (hl : args.length ≤ 26 := by exact Nat.le_of_ble_eq_true rfl) : T Tryz.prog 211 args σ Post := T.walk Tryz.func211 cf211 hl rfl h
@[reducible] def vb12 : VC :=
  .seq (.region [m 1 (.box 0 (t 0)), m 2 (.mov (.c (.bool false)))]) <|
  .seq (.region [m 3 (.field 108 (t 1)), m 4 (.load (some 24) (t 3)), m 5 (.call false 33 [(t 4)]), m 6 (.mov (t 5)), g 7 6 true (.field 2 (t 1)), g 8 6 true (.field 61 (t 7)), g 9 6 true (.load none (t 8)), g 10 6 true (.lenStr (t 9)), g 11 6 true (.bin .lss .num (t 10) (.c (i 1024))), m 12 (.pick (t 6) (t 11) (.c (.bool false))), m 2 (.mov (t 12))]) <|
  .ret
def vf12 : VFun := ⟨13, 1, vb12, [.tmp 2], false⟩
theorem cf12 : cFun Tryz.prog rawF false Tryz.f12 = some vf12 := by kernel_rfl
theorem T12 (h : HT σ args Post vb12 vf12 [dd]) (hl : args.length ≤ 13 := by exact Nat.le_of_ble_eq_true rfl) : T Tryz.prog 12 args σ Post := T.walk Tryz.func12 cf12 hl rfl h
@[reducible] def vb33 : VC :=
  .seq (.region [m 1 (.box 0 (t 0)), m 2 (.mov (.c (.bool false)))]) <|
  .seq (.seq (.region [m 3 (.mov (.c q))]) <|
  .block 0 <| .loop <| .seq (.seq (.region [m 5 (.mov (t 3)), m 6 (.field 1 (t 1)), m 7 (.load none (t 6)), m 8 (.len (t 7)), m 9 (.bin .lss .num (t 5) (t 8))]) <|
  .cond (t 9) (.skip) (.exit 0)) <|
  .seq (.block 1 <| .seq (.region [m 12 (.field 1 (t 1)), m 13 (.load none (t 12)), m 14 (.mov (t 3)), m 15 (.index 2 (t 13) (t 14)), m 16 (.field 1 (t 15)), m 17 (.load none (t 16)), m 18 (.len (t 17)), m 19 (.bin .gtr .num (t 18) (.c (i 300)))]) <|
  .cond (t 19) (.seq (.region [m 2 (.mov (.c (.bool false)))]) <|
  .ret) (.skip)) <|
  .region [m 10 (.mov (t 3)), m 11 (.bin .add .num (t 10) (.c (i 1))), m 3 (.mov (t 11))]) <|
  .seq (.seq (.region [m 4 (.mov (.c q))]) <|
  .block 2 <| .loop <| .seq (.seq (.region [m 20 (.mov (t 4)), m 21 (.field 23 (t 1)), m 22 (.load none (t 21)), m 23 (.len (t 22)), m 24 (.bin .lss .num (t 20) (t 23))]) <|
  .cond (t 24) (.skip) (.exit 2)) <|
  .seq (.block 3 <| .seq (.region [m 27 (.field 23 (t 1)), m 28 (.load none (t 27)), m 29 (.mov (t 4)), m 30 (.index 21 (t 28) (t 29)), m 31 (.field 20 (t 30)), m 32 (.load none (t 31)), m 33 (.len (t 32)), m 34 (.bin .gtr .num (t 33) (.c (i 1024)))]) <|
  .cond (t 34) (.seq (.region [m 2 (.mov (.c (.bool false)))]) <|
  .ret) (.skip)) <|
  .region [m 25 (.mov (t 4)), m 26 (.bin .add .num (t 25) (.c (i 1))), m 4 (.mov (t 26))]) <|
  .seq (.region [m 35 (.field 1 (t 1)), m 36 (.load none (t 35)), m 37 (.len (t 36)), m 38 (.bin .lss .num (t 37) (.c (i 20))), m 39 (.mov (t 38)), g 40 39 true (.field 21 (t 1)), g 41 39 true (.load none (t 40)), g 42 39 true (.len (t 41)), g 43 39 true (.bin .lss .num (t 42) (.c (i 100))), m 44 (.pick (t 39) (t 43) (.c (.bool false))), m 45 (.mov (t 44)), g 46 45 true (.field 22 (t 1)), g 47 45 true (.load none (t 46)), g 48 45 true (.len (t 47)), g 49 45 true (.bin .lss .num (t 48) (.c (i 200))), m 50 (.pick (t 45) (t 49) (.c (.bool false))), m 51 (.mov (t 50)), g 52 51 true (.field 23 (t 1)), g 53 51 true (.load none (t 52)), g 54 51 true (.len (t 53)), g 55 51 true (.bin .lss .num (t 54) (.c (i 10))), m 56 (.pick (t 51) (t 55) (.c (.bool false))), m 2 (.mov (t 56))]) <|
  .ret
def vf33 : VFun := ⟨57, 1, vb33, [.tmp 2], false⟩
theorem cf33 : cFun Tryz.prog rawF false Tryz.f33 = some vf33 := by kernel_rfl
theorem T33 (h : HT σ args Post vb33 vf33 [dd]) (hl : args.length ≤ 57 := by exact Nat.le_of_ble_eq_true rfl) : T Tryz.prog 33 args σ Post := T.walk Tryz.func33 cf33 hl rfl h
end Go.Proofs.YtjhmobdncjhcnaaGreatDoor
