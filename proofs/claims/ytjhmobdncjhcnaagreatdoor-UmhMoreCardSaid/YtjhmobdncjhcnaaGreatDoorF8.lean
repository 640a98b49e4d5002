/- Functions of the program, in the small language. -/
import Derived.Test.YtjhmobdncjhcnaaGreatDoorF1
namespace Go.Proofs.YtjhmobdncjhcnaaGreatDoor
open Go Go.V D
variable {args : List PV} {σ : VHeap} {Post : KP}
@[reducible] def vb8 : VC :=
  .seq (.region [m 4 (.box 0 (t 0)), m 5 (.box 1 (t 1)), m 6 (.box 2 (t 2)), m 7 (.box 3 (t 3)), m 8 (.mov (.c (.bool false)))]) <|
  .seq (.region [m 20 (.call false 24 []), m 9 (.mov (t 20))]) <|
  .seq (.region [m 21 (.load (some 30) (t 4)), m 22 (.call false 21 [(t 21)]), m 10 (.mov (t 22))]) <|
  .seq (.region [m 23 (.load (some 23) (t 5)), m 24 (.call false 25 [(t 23)]), m 11 (.mov (t 24))]) <|
  .seq (.region [m 25 (.load (some 132) (t 7)), m 26 (.call false 12 [(t 25)]), m 12 (.mov (t 26))]) <|
  .seq (.seq (.region [m 27 (.mov (t 10)), m 28 (.un .not (t 27)), m 29 (.mov (t 28)), g 30 29 false (.mov (t 11)), g 31 29 false (.un .not (t 30)), m 32 (.pick (t 29) (.c (.bool true)) (t 31)), m 33 (.mov (t 32)), g 34 33 false (.mov (t 12)), g 35 33 false (.un .not (t 34)), m 36 (.pick (t 33) (.c (.bool true)) (t 35))]) <|
  .cond (t 36) (.seq (.region [m 37 (.mov (t 9)), m 8 (.mov (t 37))]) <|
  .ret) (.skip)) <|
  .seq (.region [m 39 (.load (some 30) (t 4)), m 40 (.load (some 23) (t 5)), m 41 (.load (some 17) (t 6)), m 42 (.call false 26 [(t 39), (t 40), (t 41)]), m 38 (.mov (t 42)), m 43 (.extract 0 (t 38)), m 44 (.extract 1 (t 38)), m 13 (.alloc 4 [q, o, o, o, o, o, o, o, o, o, o, o, o, o, o, o, o, o, o, o, o, o, o, o, o, q, o, o, o, o, o, o, o, o]), e (.store 34 (t 13) (t 43)), m 14 (.mov (t 44))]) <|
  .seq (.region [m 45 (.load (some 23) (t 5)), m 15 (.alloc 5 [q, o, o, o, o, o, o, o, o, o, o, o, o, o, o, o, o, q, .nils, .nils, .nils, .nils, .nils]), e (.store 23 (t 15) (t 45))]) <|
  .seq (.dreg [(m 46 (.buildSlice 6 132 0 [q, q, q, o, o, o, o, o, o, o, o, q, q, o, o, o, o, o, o, o, o, o, o, o, o, o, o, o, o, q, o, o, o, o, o, o, o, o, o, o, o, o, o, o, o, o, q, o, o, o, o, o, o, o, o, o, o, o, o, o, o, o, o, (.str []), o, o, o, o, o, o, o, o, q, o, o, o, o, o, o, o, o, o, o, o, o, o, o, o, o, q, q, q, o, o, o, o, o, o, o, o, o, o, o, o, o, o, o, o, q, .nils, q, q, q, o, o, o, o, o, o, o, o, o, o, o, o, o, o, o, o, .nils, .nils, .nils] []), []), (m 47 (.field 22 (t 5)), []), (m 48 (.load none (t 47)), [1]), (m 49 (.append 7 132 344 (t 46) (t 48)), [0, 2]), (m 50 (.load (some 132) (t 7)), []), (m 51 (.buildSlice 8 132 1 [q, q, q, o, o, o, o, o, o, o, o, q, q, o, o, o, o, o, o, o, o, o, o, o, o, o, o, o, o, q, o, o, o, o, o, o, o, o, o, o, o, o, o, o, o, o, q, o, o, o, o, o, o, o, o, o, o, o, o, o, o, o, o, (.str []), o, o, o, o, o, o, o, o, q, o, o, o, o, o, o, o, o, o, o, o, o, o, o, o, o, q, q, q, o, o, o, o, o, o, o, o, o, o, o, o, o, o, o, o, q, .nils, q, q, q, o, o, o, o, o, o, o, o, o, o, o, o, o, o, o, o, .nils, .nils, .nils] [(0, (t 50))]), [4]), (m 52 (.append 9 132 344 (t 49) (t 51)), [3, 5, 3]), (m 53 (.field 22 (t 15)), [0, 1, 2, 3, 4, 5, 6]), (e (.store 1 (t 53) (t 52)), [7, 6, 6, 0, 1, 2, 3, 4, 5, 6])] [(2, 1), (2, 2), (2, 4), (0, 0), (0, 3), (0, 5), (0, 6), (1, 7), (0, 8)] [0, 0, 2, 7, 0, 16, 63, 127, 255]) <|
  .seq (.region [m 55 (.load (some 30) (t 4)), m 56 (.load (some 23) (t 15)), m 57 (.load (some 17) (t 6)), m 58 (.call false 26 [(t 55), (t 56), (t 57)]), m 54 (.mov (t 58)), m 59 (.extract 0 (t 54)), m 60 (.extract 1 (t 54)), m 16 (.alloc 10 [q, o, o, o, o, o, o, o, o, o, o, o, o, o, o, o, o, o, o, o, o, o, o, o, o, q, o, o, o, o, o, o, o, o]), e (.store 34 (t 16) (t 59)), m 17 (.mov (t 60))]) <|
  .seq (.region [m 62 (.load (some 30) (t 4)), m 63 (.field 0 (t 5)), m 64 (.load (some 17) (t 63)), m 65 (.field 17 (t 5)), m 66 (.load none (t 65)), m 67 (.load (some 132) (t 7)), m 68 (.buildSlice 11 132 1 [q, q, q, o, o, o, o, o, o, o, o, q, q, o, o, o, o, o, o, o, o, o, o, o, o, o, o, o, o, q, o, o, o, o, o, o, o, o, o, o, o, o, o, o, o, o, q, o, o, o, o, o, o, o, o, o, o, o, o, o, o, o, o, (.str []), o, o, o, o, o, o, o, o, q, o, o, o, o, o, o, o, o, o, o, o, o, o, o, o, o, q, q, q, o, o, o, o, o, o, o, o, o, o, o, o, o, o, o, o, q, .nils, q, q, q, o, o, o, o, o, o, o, o, o, o, o, o, o, o, o, o, .nils, .nils, .nils] [(0, (t 67))]), m 69 (.build [q, o, o, o, o, o, o, o, o, o, o, o, o, o, o, o, o, q, .nils, .nils, .nils, .nils, .nils] [(0, 17, (t 64)), (17, 1, (t 66)), (22, 1, (t 68))]), m 70 (.load (some 17) (t 6)), m 71 (.call false 26 [(t 62), (t 69), (t 70)]), m 61 (.mov (t 71)), m 72 (.extract 0 (t 61)), m 73 (.extract 1 (t 61)), m 18 (.alloc 12 [q, o, o, o, o, o, o, o, o, o, o, o, o, o, o, o, o, o, o, o, o, o, o, o, o, q, o, o, o, o, o, o, o, o]), e (.store 34 (t 18) (t 72)), m 19 (.mov (t 73))]) <|
  .seq (.seq (.region [m 74 (.mov (t 19)), m 75 (.un .not (t 74))]) <|
  .cond (t 75) (.seq (.region [m 76 (.mov (t 9)), m 77 (.mov (t 76)), g 78 77 true (.load (some 34) (t 13)), g 79 77 true (.load (some 34) (t 16)), g 80 77 true (.eqAgg [(.i .i64), (.i .u8), (.i .u8), (.i .u8), (.i .u8), (.i .u8), (.i .u8), (.i .u8), (.i .u8), (.i .u8), (.i .u8), (.i .u8), (.i .u8), (.i .u8), (.i .u8), (.i .u8), (.i .u8), (.i .u8), (.i .u8), (.i .u8), (.i .u8), (.i .u8), (.i .u8), (.i .u8), (.i .u8), (.i .i64), (.i .u8), (.i .u8), (.i .u8), (.i .u8), (.i .u8), (.i .u8), (.i .u8), (.i .u8)] false (t 78) (t 79)), m 81 (.pick (t 77) (t 80) (.c (.bool false))), m 82 (.mov (t 81)), g 83 82 true (.mov (t 14)), g 84 82 true (.mov (t 17)), g 85 82 true (.bin .eql .bool (t 83) (t 84)), m 86 (.pick (t 82) (t 85) (.c (.bool false))), m 8 (.mov (t 86))]) <|
  .ret) (.skip)) <|
  .seq (.region [m 87 (.mov (t 9)), m 88 (.mov (t 87)), g 89 88 true (.mov (t 17)), m 90 (.pick (t 88) (t 89) (.c (.bool false))), m 91 (.mov (t 90)), g 92 91 true (.load (some 34) (t 16)), g 93 91 true (.load (some 34) (t 18)), g 94 91 true (.eqAgg [(.i .i64), (.i .u8), (.i .u8), (.i .u8), (.i .u8), (.i .u8), (.i .u8), (.i .u8), (.i .u8), (.i .u8), (.i .u8), (.i .u8), (.i .u8), (.i .u8), (.i .u8), (.i .u8), (.i .u8), (.i .u8), (.i .u8), (.i .u8), (.i .u8), (.i .u8), (.i .u8), (.i .u8), (.i .u8), (.i .i64), (.i .u8), (.i .u8), (.i .u8), (.i .u8), (.i .u8), (.i .u8), (.i .u8), (.i .u8)] false (t 92) (t 93)), g 95 91 true (.mov (t 94)), g 96 95 false (.mov (t 14)), g 97 95 false (.mov (t 96)), g 98 97 true (.load (some 34) (t 16)), g 99 97 true (.load (some 34) (t 13)), g 100 97 true (.eqAgg [(.i .i64), (.i .u8), (.i .u8), (.i .u8), (.i .u8), (.i .u8), (.i .u8), (.i .u8), (.i .u8), (.i .u8), (.i .u8), (.i .u8), (.i .u8), (.i .u8), (.i .u8), (.i .u8), (.i .u8), (.i .u8), (.i .u8), (.i .u8), (.i .u8), (.i .u8), (.i .u8), (.i .u8), (.i .u8), (.i .i64), (.i .u8), (.i .u8), (.i .u8), (.i .u8), (.i .u8), (.i .u8), (.i .u8), (.i .u8)] false (t 98) (t 99)), g 101 95 false (.pick (t 97) (t 100) (.c (.bool false))), g 102 91 true (.pick (t 95) (.c (.bool true)) (t 101)), m 103 (.pick (t 91) (t 102) (.c (.bool false))), m 8 (.mov (t 103))]) <|
  .ret
def vf8 : VFun := ⟨104, 13, vb8, [.tmp 8], false⟩
theorem cf8 : cFun Tryz.prog rawF false Tryz.f8 = some vf8 := by kernel_rfl
theorem T8 (h : HT σ args Post vb8 vf8 [dd, dd, dd, dd, dd, dd, dd, dd, dd, dd, dd, dd, dd]) (hl : args.length ≤ 104 := by exact Nat.le_of_ble_eq_true rfl) : T Tryz.prog 8 args σ Post := T.walk Tryz.func8 cf8 hl rfl h
@[reducible] def vb24 : VC :=
  .seq (.region [m 0 (.mov (.c (.bool false)))]) <|
  .seq (.region [m 9 (.call false 47 [(.c (.str [97])), (.c (i 3)), (.c (b 1))]), m 1 (.alloc 0 [(.str []), q, o, o, o, o, o, o, o, o, .nils, .nils, q, o, o, o, o, o, o, o, o, o, o, o, o, o, o, o, o, .nils]), e (.store 30 (t 1) (t 9))]) <|
  .seq (.region [m 10 (.call false 31 [(.c (b 10)), (.c o), (.c o), (.c (b 9))]), m 11 (.call false 68 [(.c o), (.c (i 16))]), m 12 (.call false 67 [(t 11), (.c (b 1)), (.c (b 3)), (.c (b 1))]), m 13 (.call false 68 [(.c o), (.c (i 24))]), m 14 (.call false 67 [(t 13), (.c (b 2)), (.c (b 3)), (.c (b 1))]), m 15 (.call false 68 [(.c o), (.c (i 24))]), m 16 (.call false 67 [(t 15), (.c (b 4)), (.c (b 3)), (.c (b 2))]), m 17 (.buildSlice 1 132 3 [q, q, q, o, o, o, o, o, o, o, o, q, q, o, o, o, o, o, o, o, o, o, o, o, o, o, o, o, o, q, o, o, o, o, o, o, o, o, o, o, o, o, o, o, o, o, q, o, o, o, o, o, o, o, o, o, o, o, o, o, o, o, o, (.str []), o, o, o, o, o, o, o, o, q, o, o, o, o, o, o, o, o, o, o, o, o, o, o, o, o, q, q, q, o, o, o, o, o, o, o, o, o, o, o, o, o, o, o, o, q, .nils, q, q, q, o, o, o, o, o, o, o, o, o, o, o, o, o, o, o, o, .nils, .nils, .nils] [(0, (t 12)), (1, (t 14)), (2, (t 16))]), m 18 (.build [q, o, o, o, o, o, o, o, o, o, o, o, o, o, o, o, o, q, .nils, .nils, .nils, .nils, .nils] [(0, 17, (t 10)), (17, 1, (.c (i 65000))), (22, 1, (t 17))]), m 2 (.alloc 2 [q, o, o, o, o, o, o, o, o, o, o, o, o, o, o, o, o, q, .nils, .nils, .nils, .nils, .nils]), e (.store 23 (t 2) (t 18))]) <|
  .seq (.dreg [(m 20 (.load (some 30) (t 1)), []), (m 21 (.load (some 23) (t 2)), []), (m 22 (.call false 31 [(.c (b 10)), (.c (b 1)), (.c o), (.c (b 1))]), []), (m 23 (.call false 26 [(t 20), (t 21), (t 22)]), [0, 1, 2, 2]), (m 19 (.mov (t 23)), [3]), (m 24 (.extract 0 (t 19)), [4]), (m 25 (.extract 1 (t 19)), [4]), (m 3 (.alloc 3 [q, o, o, o, o, o, o, o, o, o, o, o, o, o, o, o, o, o, o, o, o, o, o, o, o, q, o, o, o, o, o, o, o, o]), []), (e (.store 34 (t 3) (t 24)), [7, 5, 3, 0, 1, 2, 3, 4, 5, 7]), (m 4 (.mov (t 25)), [6, 8, 0, 1, 2, 3, 4, 5, 6, 7, 8])] [(2, 0), (2, 1), (2, 2), (2, 3), (2, 4), (2, 5), (2, 6), (0, 7), (0, 8), (2, 9)] [0, 0, 0, 7, 15, 31, 31, 0, 191, 511]) <|
  .seq (.dreg [(m 27 (.load (some 30) (t 1)), []), (m 28 (.load (some 23) (t 2)), []), (m 29 (.call false 31 [(.c (b 10)), (.c (b 1)), (.c (b 9)), (.c (b 1))]), []), (m 30 (.call false 26 [(t 27), (t 28), (t 29)]), [0, 1, 2, 2]), (m 26 (.mov (t 30)), [3]), (m 31 (.extract 0 (t 26)), [4]), (m 32 (.extract 1 (t 26)), [4]), (m 5 (.alloc 4 [q, o, o, o, o, o, o, o, o, o, o, o, o, o, o, o, o, o, o, o, o, o, o, o, o, q, o, o, o, o, o, o, o, o]), []), (e (.store 34 (t 5) (t 31)), [7, 5, 3, 0, 1, 2, 3, 4, 5, 7]), (m 6 (.mov (t 32)), [6, 8, 0, 1, 2, 3, 4, 5, 6, 7, 8])] [(2, 0), (2, 1), (2, 2), (2, 3), (2, 4), (2, 5), (2, 6), (0, 7), (0, 8), (2, 9)] [0, 0, 0, 7, 15, 31, 31, 0, 191, 511]) <|
  .seq (.dreg [(m 34 (.load (some 30) (t 1)), []), (m 35 (.load (some 23) (t 2)), []), (m 36 (.call false 31 [(.c (b 10)), (.c (b 2)), (.c o), (.c (b 1))]), []), (m 37 (.call false 26 [(t 34), (t 35), (t 36)]), [0, 1, 2, 2]), (m 33 (.mov (t 37)), [3]), (m 38 (.extract 0 (t 33)), [4]), (m 39 (.extract 1 (t 33)), [4]), (m 7 (.alloc 5 [q, o, o, o, o, o, o, o, o, o, o, o, o, o, o, o, o, o, o, o, o, o, o, o, o, q, o, o, o, o, o, o, o, o]), []), (e (.store 34 (t 7) (t 38)), [7, 5, 3, 0, 1, 2, 3, 4, 5, 7]), (m 8 (.mov (t 39)), [6, 8, 0, 1, 2, 3, 4, 5, 6, 7, 8])] [(2, 0), (2, 1), (2, 2), (2, 3), (2, 4), (2, 5), (2, 6), (0, 7), (0, 8), (2, 9)] [0, 0, 0, 7, 15, 31, 31, 0, 191, 511]) <|
  .seq (.dreg [(m 40 (.mov (t 4)), []), (m 41 (.mov (t 40)), [0]), (g 42 41 true (.field 0 (t 3)), [1]), (g 43 41 true (.load (some 17) (t 42)), [2, 1]), (g 44 41 true (.call false 31 [(.c (b 10)), (.c o), (.c o), (.c (b 2))]), [1, 1]), (g 45 41 true (.eqAgg [(.i .i64), (.i .u8), (.i .u8), (.i .u8), (.i .u8), (.i .u8), (.i .u8), (.i .u8), (.i .u8), (.i .u8), (.i .u8), (.i .u8), (.i .u8), (.i .u8), (.i .u8), (.i .u8), (.i .u8)] false (t 43) (t 44)), [3, 4, 1]), (m 46 (.pick (t 41) (t 45) (.c (.bool false))), [1, 5]), (m 47 (.mov (t 46)), [6, 4]), (g 48 47 true (.field 25 (t 3)), [7]), (g 49 47 true (.load none (t 48)), [8, 7]), (g 50 47 true (.bin .eql .num (t 49) (.c (i 65000))), [9, 7]), (m 51 (.pick (t 47) (t 50) (.c (.bool false))), [7, 10]), (m 52 (.mov (t 51)), [11, 7]), (g 53 52 true (.mov (t 6)), [12]), (m 54 (.pick (t 52) (t 53) (.c (.bool false))), [12, 13]), (m 55 (.mov (t 54)), [14, 12]), (g 56 55 true (.field 0 (t 5)), [15]), (g 57 55 true (.load (some 17) (t 56)), [16, 15]), (g 58 55 true (.call false 31 [(.c (b 10)), (.c o), (.c o), (.c (b 1))]), [15, 15]), (g 59 55 true (.eqAgg [(.i .i64), (.i .u8), (.i .u8), (.i .u8), (.i .u8), (.i .u8), (.i .u8), (.i .u8), (.i .u8), (.i .u8), (.i .u8), (.i .u8), (.i .u8), (.i .u8), (.i .u8), (.i .u8), (.i .u8)] false (t 57) (t 58)), [17, 18, 15]), (m 60 (.pick (t 55) (t 59) (.c (.bool false))), [15, 19]), (m 61 (.mov (t 60)), [20, 18]), (g 62 61 true (.mov (t 8)), [21]), (g 63 61 true (.un .not (t 62)), [22, 21]), (m 64 (.pick (t 61) (t 63) (.c (.bool false))), [21, 23]), (m 0 (.mov (t 64)), [24, 21, 0, 1, 2, 3, 4, 5, 6, 7, 8, 9, 10, 11, 12, 13, 14, 15, 16, 17, 18, 19, 20, 21, 22, 23, 24])] [(2, 0), (2, 1), (1, 2), (1, 3), (1, 4), (2, 5), (2, 6), (2, 7), (1, 8), (1, 9), (2, 10), (2, 11), (2, 12), (2, 13), (2, 14), (2, 15), (1, 16), (1, 17), (1, 18), (2, 19), (2, 20), (2, 21), (2, 22), (2, 23), (2, 24), (2, 25)] [0, 1, 3, 7, 3, 31, 63, 127, 255, 511, 1023, 2047, 4095, 8191, 16383, 32767, 65535, 131071, 65535, 524287, 1048575, 2097151, 4194303, 8388607, 16777215, 33554431]) <|
  .ret
def vf24 : VFun := ⟨65, 6, vb24, [.tmp 0], false⟩
theorem cf24 : cFun Tryz.prog rawF false Tryz.f24 = some vf24 := by kernel_rfl
@[reducible] def vb25 : VC :=
  .seq (.region [m 1 (.box 0 (t 0)), m 2 (.mov (.c (.bool false)))]) <|
  .seq (.seq (.region [m 3 (.mov (.c q))]) <|
  .block 0 <| .loop <| .seq (.seq (.region [m 7 (.mov (t 3)), m 8 (.field 18 (t 1)), m 9 (.load none (t 8)), m 10 (.len (t 9)), m 11 (.bin .lss .num (t 7) (t 10)), m 12 (.mov (t 11)), g 13 12 true (.mov (t 3)), g 14 12 true (.bin .lss .num (t 13) (.c (i 30))), m 15 (.pick (t 12) (t 14) (.c (.bool false)))]) <|
  .cond (t 15) (.skip) (.exit 0)) <|
  .seq (.block 1 <| .seq (.region [m 18 (.field 18 (t 1)), m 19 (.load none (t 18)), m 20 (.mov (t 3)), m 21 (.index 30 (t 19) (t 20)), m 22 (.load (some 30) (t 21)), m 23 (.call false 21 [(t 22)]), m 4 (.mov (t 23))]) <|
  .seq (.region [m 24 (.mov (t 4)), m 25 (.un .not (t 24))]) <|
  .cond (t 25) (.seq (.region [m 2 (.mov (.c (.bool false)))]) <|
  .ret) (.skip)) <|
  .region [m 16 (.mov (t 3)), m 17 (.bin .add .num (t 16) (.c (i 1))), m 3 (.mov (t 17))]) <|
  .seq (.seq (.region [m 5 (.mov (.c q))]) <|
  .block 2 <| .loop <| .seq (.seq (.region [m 26 (.mov (t 5)), m 27 (.field 22 (t 1)), m 28 (.load none (t 27)), m 29 (.len (t 28)), m 30 (.bin .lss .num (t 26) (t 29)), m 31 (.mov (t 30)), g 32 31 true (.mov (t 5)), g 33 31 true (.bin .lss .num (t 32) (.c (i 80))), m 34 (.pick (t 31) (t 33) (.c (.bool false)))]) <|
  .cond (t 34) (.skip) (.exit 2)) <|
  .seq (.block 3 <| .seq (.region [m 37 (.field 22 (t 1)), m 38 (.load none (t 37)), m 39 (.mov (t 5)), m 40 (.index 132 (t 38) (t 39)), m 41 (.load (some 132) (t 40)), m 42 (.call false 12 [(t 41)]), m 6 (.mov (t 42))]) <|
  .seq (.region [m 43 (.mov (t 6)), m 44 (.un .not (t 43))]) <|
  .cond (t 44) (.seq (.region [m 2 (.mov (.c (.bool false)))]) <|
  .ret) (.skip)) <|
  .region [m 35 (.mov (t 5)), m 36 (.bin .add .num (t 35) (.c (i 1))), m 5 (.mov (t 36))]) <|
  .seq (.region [m 45 (.field 18 (t 1)), m 46 (.load none (t 45)), m 47 (.len (t 46)), m 48 (.bin .leq .num (t 47) (.c (i 20))), m 49 (.mov (t 48)), g 50 49 true (.field 19 (t 1)), g 51 49 true (.load none (t 50)), g 52 49 true (.len (t 51)), g 53 49 true (.bin .leq .num (t 52) (.c (i 40))), m 54 (.pick (t 49) (t 53) (.c (.bool false))), m 55 (.mov (t 54)), g 56 55 true (.field 20 (t 1)), g 57 55 true (.load none (t 56)), g 58 55 true (.len (t 57)), g 59 55 true (.bin .leq .num (t 58) (.c (i 40))), m 60 (.pick (t 55) (t 59) (.c (.bool false))), m 61 (.mov (t 60)), g 62 61 true (.field 21 (t 1)), g 63 61 true (.load none (t 62)), g 64 61 true (.len (t 63)), g 65 61 true (.bin .leq .num (t 64) (.c (i 80))), m 66 (.pick (t 61) (t 65) (.c (.bool false))), m 67 (.mov (t 66)), g 68 67 true (.field 22 (t 1)), g 69 67 true (.load none (t 68)), g 70 67 true (.len (t 69)), g 71 67 true (.bin .leq .num (t 70) (.c (i 60))), m 72 (.pick (t 67) (t 71) (.c (.bool false))), m 2 (.mov (t 72))]) <|
  .ret
def vf25 : VFun := ⟨73, 1, vb25, [.tmp 2], false⟩
theorem cf25 : cFun Tryz.prog rawF false Tryz.f25 = some vf25 := by kernel_rfl
theorem T25 (h : HT σ args Post vb25 vf25 [dd]) (hl : args.length ≤ 73 := by exact Nat.le_of_ble_eq_true rfl) : T Tryz.prog 25 args σ Post := T.walk Tryz.func25 cf25 hl rfl h
@[reducible] def vb26 : VC :=
  .seq (.region [m 3 (.box 0 (t 0)), m 4 (.box 1 (t 1)), m 5 (.box 2 (t 2)), m 6 (.alloc 3 [q, o, o, o, o, o, o, o, o, o, o, o, o, o, o, o, o, o, o, o, o, o, o, o, o, q, o, o, o, o, o, o, o, o]), m 7 (.mov (.c (.bool false)))]) <|
  .seq (.region [m 10 (.load (some 30) (t 3)), m 11 (.load (some 23) (t 4)), m 12 (.load (some 17) (t 5)), m 13 (.call false 69 [(t 10), (t 11), (t 12)]), m 8 (.mov (t 13))]) <|
  .seq (.seq (.region [m 14 (.mov (t 8)), m 15 (.len (t 14)), m 16 (.bin .eql .num (t 15) (.c q))]) <|
  .cond (t 16) (.seq (.region [m 17 (.build [q, o, o, o, o, o, o, o, o, o, o, o, o, o, o, o, o, o, o, o, o, o, o, o, o, q, o, o, o, o, o, o, o, o] []), e (.store 34 (t 6) (t 17)), m 7 (.mov (.c (.bool false)))]) <|
  .ret) (.skip)) <|
  .seq (.region [m 18 (.mov (t 8)), m 19 (.call false 70 [(t 18), (.c (.fn 71 []))]), m 9 (.alloc 4 [q, o, o, o, o, o, o, o, o, o, o, o, o, o, o, o, o, o, o, o, o, o, o, o, o, q, o, o, o, o, o, o, o, o, q, (.str [])]), e (.store 36 (t 9) (t 19))]) <|
  .seq (.region [m 20 (.field 0 (t 9)), m 21 (.load (some 34) (t 20)), e (.store 34 (t 6) (t 21)), m 7 (.mov (.c (.bool true)))]) <|
  .ret
def vf26 : VFun := ⟨22, 5, vb26, [.cell 6 (some 34), .tmp 7], false⟩
theorem cf26 : cFun Tryz.prog rawF false Tryz.f26 = some vf26 := by kernel_rfl
theorem T26 (h : HT σ args Post vb26 vf26 [dd, dd, dd, dd, dd]) (hl : args.length ≤ 22 := by exact Nat.le_of_ble_eq_true rfl) : T Tryz.prog 26 args σ Post := T.walk Tryz.func26 cf26 hl rfl h
@[reducible] def vb27 : VC :=
  .seq (.region [m 3 (.box 0 (t 0)), m 4 (.box 1 (t 1)), m 5 (.box 2 (t 2)), m 6 (.alloc 3 [q, o, o, o, o, o, o, o, o, o, o, o, o, o, o, o, o, q]), m 7 (.mov (.c (.bool false)))]) <|
  .seq (.seq (.region [m 10 (.field 19 (t 4)), m 11 (.load none (t 10)), m 12 (.len (t 11)), m 13 (.mov (.c q))]) <|
  .block 0 <| .loop <| .seq (.region [m 14 (.bin .lss .num (t 13) (t 12))]) <|
  .seq (.cond (t 14) (.skip) (.exit 0)) <|
  .seq (.block 1 <| .seq (.region [m 15 (.index 20 (t 11) (t 13)), m 16 (.load (some 20) (t 15)), m 9 (.alloc 4 [(.str []), q, o, o, o, o, o, o, o, o, o, o, o, o, o, o, o, o, q, q]), e (.store 20 (t 9) (t 16))]) <|
  .seq (.region [m 17 (.field 0 (t 9)), m 18 (.load none (t 17)), m 19 (.field 0 (t 3)), m 20 (.load none (t 19)), m 21 (.bin .eql .num (t 18) (t 20)), m 22 (.mov (t 21)), g 23 22 true (.field 1 (t 9)), g 24 22 true (.load (some 18) (t 23)), g 25 22 true (.load (some 17) (t 5)), g 26 22 true (.call false 76 [(t 24), (t 25)]), m 27 (.pick (t 22) (t 26) (.c (.bool false))), m 28 (.mov (t 27)), g 29 28 true (.mov (t 7)), g 30 28 true (.un .not (t 29)), g 31 28 true (.mov (t 30)), g 32 31 false (.field 1 (t 9)), g 33 31 false (.field 17 (t 32)), g 34 31 false (.load none (t 33)), g 35 31 false (.field 17 (t 6)), g 36 31 false (.load none (t 35)), g 37 31 false (.bin .gtr .num (t 34) (t 36)), g 38 28 true (.pick (t 31) (.c (.bool true)) (t 37)), m 39 (.pick (t 28) (t 38) (.c (.bool false)))]) <|
  .cond (t 39) (.region [m 40 (.field 1 (t 9)), m 41 (.load (some 18) (t 40)), e (.store 18 (t 6) (t 41)), m 7 (.mov (.c (.bool true)))]) (.skip)) <|
  .region [m 42 (.bin .add .num (t 13) (.c (i 1))), m 13 (.mov (t 42))]) <|
  .seq (.region [m 43 (.load (some 18) (t 6)), m 44 (.mov (t 7)), e (.store 18 (t 6) (t 43)), m 7 (.mov (t 44))]) <|
  .ret
def vf27 : VFun := ⟨45, 5, vb27, [.cell 6 (some 18), .tmp 7], false⟩
theorem cf27 : cFun Tryz.prog rawF false Tryz.f27 = some vf27 := by kernel_rfl
theorem T27 (h : HT σ args Post vb27 vf27 [dd, dd, dd, dd, dd]) (hl : args.length ≤ 45 := by exact Nat.le_of_ble_eq_true rfl) : T Tryz.prog 27 args σ Post := T.walk Tryz.func27 cf27 hl rfl h
@[reducible] def vb28 : VC :=
  .seq (.region [m 2 (.box 0 (t 0)), m 3 (.box 1 (t 1)), m 4 (.alloc 2 [q, o, o, o, o, o, o, o, o, o, o, o, o, o, o, o, o, o, o, o, o, o, o, o, o, q, o, o, o, o, o, o, o, o]), m 5 (.mov (.c q))]) <|
  .seq (.region [m 9 (.field 0 (t 3)), m 10 (.load (some 17) (t 9)), m 11 (.field 1 (t 2)), m 12 (.load none (t 11)), m 13 (.call false 77 [(t 10), (t 12)]), m 8 (.mov (t 13)), m 14 (.extract 0 (t 8)), m 15 (.extract 1 (t 8)), m 6 (.alloc 3 [o, o, o, o, o, o, o, o]), e (.store 8 (t 6) (t 14)), m 7 (.mov (t 15))]) <|
  .seq (.seq (.region [m 16 (.mov (t 7)), m 17 (.bin .neq .num (t 16) (.c q))]) <|
  .cond (t 17) (.seq (.region [m 18 (.build [q, o, o, o, o, o, o, o, o, o, o, o, o, o, o, o, o, o, o, o, o, o, o, o, o, q, o, o, o, o, o, o, o, o] []), m 19 (.mov (t 7)), e (.store 34 (t 4) (t 18)), m 5 (.mov (t 19))]) <|
  .ret) (.skip)) <|
  .seq (.region [m 20 (.field 0 (t 3)), m 21 (.load (some 17) (t 20)), m 22 (.load (some 8) (t 6)), m 23 (.field 17 (t 3)), m 24 (.load none (t 23)), m 25 (.field 2 (t 2)), m 26 (.load (some 8) (t 25)), m 27 (.build [q, o, o, o, o, o, o, o, o, o, o, o, o, o, o, o, o, o, o, o, o, o, o, o, o, q, o, o, o, o, o, o, o, o] [(0, 17, (t 21)), (17, 8, (t 22)), (25, 1, (t 24)), (26, 8, (t 26))]), e (.store 34 (t 4) (t 27)), m 5 (.mov (.c q))]) <|
  .ret
def vf28 : VFun := ⟨28, 4, vb28, [.cell 4 (some 34), .tmp 5], false⟩
theorem cf28 : cFun Tryz.prog rawF false Tryz.f28 = some vf28 := by kernel_rfl
theorem T28 (h : HT σ args Post vb28 vf28 [dd, dd, dd, dd]) (hl : args.length ≤ 28 := by exact Nat.le_of_ble_eq_true rfl) : T Tryz.prog 28 args σ Post := T.walk Tryz.func28 cf28 hl rfl h
@[reducible] def vb67 : VC :=
  .seq (.region [m 4 (.box 0 (t 0)), m 8 (.alloc 1 [q, q, q, o, o, o, o, o, o, o, o, q, q, o, o, o, o, o, o, o, o, o, o, o, o, o, o, o, o, q, o, o, o, o, o, o, o, o, o, o, o, o, o, o, o, o, q, o, o, o, o, o, o, o, o, o, o, o, o, o, o, o, o, (.str []), o, o, o, o, o, o, o, o, q, o, o, o, o, o, o, o, o, o, o, o, o, o, o, o, o, q, q, q, o, o, o, o, o, o, o, o, o, o, o, o, o, o, o, o, q, .nils, q, q, q, o, o, o, o, o, o, o, o, o, o, o, o, o, o, o, o, .nils, .nils, .nils])]) <|
  .seq (.dreg [(m 9 (.field 0 (t 4)), []), (m 10 (.field 0 (t 9)), [0]), (m 11 (.load none (t 10)), [1]), (m 12 (.mov (t 2)), []), (m 13 (.build [o, o, o, o, o, o, o, o] [(0, 1, (.c o)), (1, 1, (.c o)), (2, 1, (.c o)), (3, 1, (.c (b 1))), (4, 1, (.c o)), (5, 1, (.c o)), (6, 1, (.c o)), (7, 1, (t 12))]), [3]), (m 14 (.load (some 18) (t 4)), []), (m 15 (.build [o, o, o, o, o, o, o, o, q, o, o, o, o, o, o, o, o, o, o, o, o, o, o, o, o, q, q] [(0, 8, (t 13)), (8, 18, (t 14)), (26, 1, (.c (i 16)))]), [4, 5]), (m 16 (.mov (t 1)), []), (m 17 (.call false 31 [(.c (b 10)), (.c o), (.c o), (t 16)]), [7]), (m 18 (.mov (t 3)), []), (m 19 (.call false 48 [(t 18)]), [9, 8]), (m 20 (.mov (t 1)), []), (m 21 (.mov (t 2)), []), (m 22 (.build [o, o, o, o, o, o, o, o] [(0, 1, (.c (b 1))), (1, 1, (.c (b 11))), (2, 1, (.c (b 10))), (3, 1, (.c o)), (4, 1, (.c o)), (5, 1, (t 20)), (6, 1, (.c o)), (7, 1, (t 21))]), [11, 12]), (m 23 (.build [o, o, o, o, o, o, o, o] [(0, 1, (.c (b 2))), (1, 1, (.c (b 9))), (2, 1, (.c o)), (3, 1, (.c o)), (4, 1, (.c (b 253))), (5, 1, (.c (b 232))), (6, 1, (.c o)), (7, 1, (.c o))]), []), (m 24 (.buildSlice 2 8 3 [o, o, o, o, o, o, o, o] [(0, (t 19)), (1, (t 22)), (2, (t 23))]), [10, 13, 14]), (m 25 (.build [q, .nils, q, q, q, o, o, o, o, o, o, o, o, o, o, o, o, o, o, o, o, .nils, .nils, .nils] [(2, 1, (.c (i (-1)))), (3, 1, (.c (i 100))), (22, 1, (t 24))]), [15]), (m 26 (.build [q, q, q, o, o, o, o, o, o, o, o, q, q, o, o, o, o, o, o, o, o, o, o, o, o, o, o, o, o, q, o, o, o, o, o, o, o, o, o, o, o, o, o, o, o, o, q, o, o, o, o, o, o, o, o, o, o, o, o, o, o, o, o, (.str []), o, o, o, o, o, o, o, o, q, o, o, o, o, o, o, o, o, o, o, o, o, o, o, o, o, q, q, q, o, o, o, o, o, o, o, o, o, o, o, o, o, o, o, o, q, .nils, q, q, q, o, o, o, o, o, o, o, o, o, o, o, o, o, o, o, o, .nils, .nils, .nils] [(0, 1, (t 11)), (1, 1, (.c (i 128))), (64, 27, (t 15)), (91, 17, (t 17)), (108, 24, (t 25))]), [2, 6, 8, 16]), (e (.store 132 (t 8) (t 26)), [17, 10, 0, 1, 2, 3, 4, 5, 6, 7, 8, 9, 10, 11, 12, 13, 14, 15, 16, 17])] [(2, 0), (2, 1), (2, 2), (2, 3), (2, 4), (2, 5), (2, 6), (2, 7), (1, 8), (2, 9), (1, 10), (2, 11), (2, 12), (2, 13), (2, 14), (0, 15), (2, 16), (2, 17), (0, 18)] [0, 1, 3, 0, 8, 0, 56, 0, 128, 0, 896, 0, 0, 6144, 0, 32640, 65408, 131071, 262143]) <|
  .ret
def vf67 : VFun := ⟨27, 3, vb67, [.cell 8 (some 132)], false⟩
theorem cf67 : cFun Tryz.prog rawF false Tryz.f67 = some vf67 := by kernel_rfl
@[reducible] def vb68 : VC :=
  .seq (.region [m 4 (.alloc 0 [q, o, o, o, o, o, o, o, o, o, o, o, o, o, o, o, o, q])]) <|
  .seq (.region [m 5 (.mov (t 0)), m 6 (.call false 31 [(.c (b 10)), (.c (b 1)), (t 5), (.c o)]), m 7 (.mov (t 1)), m 8 (.build [q, o, o, o, o, o, o, o, o, o, o, o, o, o, o, o, o, q] [(0, 17, (t 6)), (17, 1, (t 7))]), e (.store 18 (t 4) (t 8))]) <|
  .ret
def vf68 : VFun := ⟨9, 1, vb68, [.cell 4 (some 18)], false⟩
theorem cf68 : cFun Tryz.prog rawF false Tryz.f68 = some vf68 := by kernel_rfl
@[reducible] def vb69 : VC :=
  .seq (.region [m 3 (.box 0 (t 0)), m 4 (.box 1 (t 1)), m 5 (.box 2 (t 2)), m 6 (.newRow 3 36)]) <|
  .seq (.region [m 7 (.newRow 4 36)]) <|
  .seq (.region [m 19 (.load (some 30) (t 3)), m 20 (.load (some 23) (t 4)), m 21 (.call false 28 [(t 19), (t 20)]), m 18 (.mov (t 21)), m 22 (.extract 0 (t 18)), m 23 (.extract 1 (t 18)), m 8 (.alloc 5 [q, o, o, o, o, o, o, o, o, o, o, o, o, o, o, o, o, o, o, o, o, o, o, o, o, q, o, o, o, o, o, o, o, o]), e (.store 34 (t 8) (t 22)), m 9 (.mov (t 23))]) <|
  .seq (.seq (.region [m 25 (.load (some 30) (t 3)), m 26 (.load (some 23) (t 4)), m 27 (.load (some 17) (t 5)), m 28 (.call false 27 [(t 25), (t 26), (t 27)]), m 24 (.mov (t 28)), m 29 (.extract 0 (t 24)), m 30 (.extract 1 (t 24)), m 10 (.alloc 6 [q, o, o, o, o, o, o, o, o, o, o, o, o, o, o, o, o, q]), e (.store 18 (t 10) (t 29)), m 11 (.mov (t 30))]) <|
  .seq (.region [m 31 (.mov (t 11)), m 32 (.mov (t 31)), g 33 32 true (.mov (t 9)), g 34 32 true (.bin .eql .num (t 33) (.c q)), m 35 (.pick (t 32) (t 34) (.c (.bool false)))]) <|
  .cond (t 35) (.region [m 36 (.mov (t 7)), m 37 (.load (some 34) (t 8)), m 38 (.field 17 (t 10)), m 39 (.load none (t 38)), m 40 (.build [q, o, o, o, o, o, o, o, o, o, o, o, o, o, o, o, o, o, o, o, o, o, o, o, o, q, o, o, o, o, o, o, o, o, q, (.str [])] [(0, 34, (t 37)), (34, 1, (t 39)), (35, 1, (.c (.str [])))]), m 41 (.buildSlice 7 36 1 [q, o, o, o, o, o, o, o, o, o, o, o, o, o, o, o, o, o, o, o, o, o, o, o, o, q, o, o, o, o, o, o, o, o, q, (.str [])] [(0, (t 40))]), m 42 (.append 8 36 72 (t 36) (t 41)), m 7 (.mov (t 42))]) (.skip)) <|
  .seq (.seq (.region [m 43 (.load (some 30) (t 3)), m 44 (.field 0 (t 4)), m 45 (.load (some 17) (t 44)), m 46 (.field 22 (t 4)), m 47 (.load none (t 46)), m 48 (.call false 119 [(t 43), (t 45), (t 47)]), m 49 (.len (t 48)), m 50 (.mov (.c q))]) <|
  .block 0 <| .loop <| .seq (.region [m 51 (.bin .lss .num (t 50) (t 49))]) <|
  .seq (.cond (t 51) (.skip) (.exit 0)) <|
  .seq (.block 1 <| .seq (.region [m 52 (.index 132 (t 48) (t 50)), m 53 (.load (some 132) (t 52)), m 13 (.alloc 9 [q, q, q, o, o, o, o, o, o, o, o, q, q, o, o, o, o, o, o, o, o, o, o, o, o, o, o, o, o, q, o, o, o, o, o, o, o, o, o, o, o, o, o, o, o, o, q, o, o, o, o, o, o, o, o, o, o, o, o, o, o, o, o, (.str []), o, o, o, o, o, o, o, o, q, o, o, o, o, o, o, o, o, o, o, o, o, o, o, o, o, q, q, q, o, o, o, o, o, o, o, o, o, o, o, o, o, o, o, o, q, .nils, q, q, q, o, o, o, o, o, o, o, o, o, o, o, o, o, o, o, o, .nils, .nils, .nils]), e (.store 132 (t 13) (t 53))]) <|
  .seq (.seq (.region [m 54 (.field 1 (t 13)), m 55 (.load none (t 54)), m 56 (.bin .neq .num (t 55) (.c (i 128))), m 57 (.mov (t 56)), g 58 57 false (.field 64 (t 13)), g 59 57 false (.field 8 (t 58)), g 60 57 false (.load (some 18) (t 59)), g 61 57 false (.load (some 17) (t 5)), g 62 57 false (.call false 76 [(t 60), (t 61)]), g 63 57 false (.un .not (t 62)), m 64 (.pick (t 57) (.c (.bool true)) (t 63))]) <|
  .cond (t 64) (.exit 1) (.skip)) <|
  .seq (.region [m 66 (.load (some 132) (t 13)), m 67 (.call false 120 [(t 66)]), m 65 (.mov (t 67)), m 68 (.extract 0 (t 65)), m 69 (.extract 1 (t 65)), m 14 (.alloc 10 [q, o, o, o, o, o, o, o, o, o, o, o, o, o, o, o, o, o, o, o, o, o, o, o, o, q, o, o, o, o, o, o, o, o]), e (.store 34 (t 14) (t 68)), m 15 (.mov (t 69))]) <|
  .seq (.region [m 70 (.mov (t 15))]) <|
  .cond (t 70) (.seq (.region [m 72 (.load (some 132) (t 13)), m 73 (.call false 15 [(t 72)]), m 71 (.mov (t 73)), m 74 (.extract 0 (t 71)), m 75 (.extract 1 (t 71)), m 16 (.mov (t 74)), m 17 (.mov (t 75))]) <|
  .region [m 76 (.mov (t 7)), m 77 (.load (some 34) (t 14)), m 78 (.field 64 (t 13)), m 79 (.field 8 (t 78)), m 80 (.field 17 (t 79)), m 81 (.load none (t 80)), m 82 (.mov (t 16)), m 83 (.build [q, o, o, o, o, o, o, o, o, o, o, o, o, o, o, o, o, o, o, o, o, o, o, o, o, q, o, o, o, o, o, o, o, o, q, (.str [])] [(0, 34, (t 77)), (34, 1, (t 81)), (35, 1, (t 82))]), m 84 (.buildSlice 11 36 1 [q, o, o, o, o, o, o, o, o, o, o, o, o, o, o, o, o, o, o, o, o, o, o, o, o, q, o, o, o, o, o, o, o, o, q, (.str [])] [(0, (t 83))]), m 85 (.append 12 36 72 (t 76) (t 84)), m 7 (.mov (t 85))]) (.skip)) <|
  .region [m 86 (.bin .add .num (t 50) (.c (i 1))), m 50 (.mov (t 86))]) <|
  .seq (.region [m 87 (.mov (t 7)), m 6 (.mov (t 87))]) <|
  .ret
def vf69 : VFun := ⟨88, 13, vb69, [.tmp 6], false⟩
theorem cf69 : cFun Tryz.prog rawF false Tryz.f69 = some vf69 := by kernel_rfl
theorem T69 (h : HT σ args Post vb69 vf69 [dd, dd, dd, dd, dd, dd, dd, dd, dd, dd, dd, dd, dd]) (hl : args.length ≤ 88 := by exact Nat.le_of_ble_eq_true rfl) : T Tryz.prog 69 args σ Post := T.walk Tryz.func69 cf69 hl rfl h
@[reducible] def vb70 : VC :=
  .seq (.region [m 4 (.alloc 0 [q, o, o, o, o, o, o, o, o, o, o, o, o, o, o, o, o, o, o, o, o, o, o, o, o, q, o, o, o, o, o, o, o, o, q, (.str [])])]) <|
  .seq (.seq (.region [m 7 (.mov (t 0)), m 8 (.len (t 7)), m 9 (.bin .lss .num (t 8) (.c (i 1)))]) <|
  .cond (t 9) (.region [m 10 (.bad), e (.bad)]) (.skip)) <|
  .seq (.region [m 11 (.mov (t 0)), m 12 (.index 36 (t 11) (.c q)), m 13 (.load (some 36) (t 12)), m 5 (.alloc 1 [q, o, o, o, o, o, o, o, o, o, o, o, o, o, o, o, o, o, o, o, o, o, o, o, o, q, o, o, o, o, o, o, o, o, q, (.str [])]), e (.store 36 (t 5) (t 13))]) <|
  .seq (.seq (.region [m 6 (.mov (.c (i 1)))]) <|
  .block 0 <| .loop <| .seq (.seq (.region [m 14 (.mov (t 6)), m 15 (.mov (t 0)), m 16 (.len (t 15)), m 17 (.bin .lss .num (t 14) (t 16))]) <|
  .cond (t 17) (.skip) (.exit 0)) <|
  .seq (.block 1 <| .seq (.dreg [(m 20 (.mov (t 1)), []), (m 21 (.mov (t 0)), []), (m 22 (.mov (t 6)), []), (m 23 (.index 36 (t 21) (t 22)), [1, 2]), (m 24 (.load (some 36) (t 23)), [3]), (m 25 (.load (some 36) (t 5)), []), (m 26 (.callV (t 20) [(t 24), (t 25)]), [0, 4, 5]), (m 27 (.bin .lss .num (t 26) (.c q)), [6])] [(2, 0), (2, 1), (2, 2), (1, 3), (1, 4), (1, 5), (0, 6), (2, 7)] [0, 0, 0, 6, 14, 0, 63, 127]) <|
  .cond (t 27) (.region [m 28 (.mov (t 0)), m 29 (.mov (t 6)), m 30 (.index 36 (t 28) (t 29)), m 31 (.load (some 36) (t 30)), e (.store 36 (t 5) (t 31))]) (.skip)) <|
  .region [m 18 (.mov (t 6)), m 19 (.bin .add .num (t 18) (.c (i 1))), m 6 (.mov (t 19))]) <|
  .seq (.region [m 32 (.load (some 36) (t 5)), e (.store 36 (t 4) (t 32))]) <|
  .ret
def vf70 : VFun := ⟨33, 2, vb70, [.cell 4 (some 36)], false⟩
theorem cf70 : cFun Tryz.prog rawF false Tryz.f70 = some vf70 := by kernel_rfl
theorem T70 (h : HT σ args Post vb70 vf70 [dd, dd]) (hl : args.length ≤ 33 := by exact Nat.le_of_ble_eq_true rfl) : T Tryz.prog 70 args σ Post := T.walk Tryz.func70 cf70 hl rfl h
@[reducible] def vb71 : VC :=
  .seq (.region [m 2 (.box 0 (t 0)), m 3 (.box 1 (t 1)), m 4 (.mov (.c q))]) <|
  .seq (.dreg [(m 5 (.field 34 (t 3)), []), (m 6 (.load none (t 5)), [0]), (m 7 (.field 34 (t 2)), []), (m 8 (.load none (t 7)), [2]), (m 9 (.call false 73 [(t 6), (t 8)]), [1, 3]), (m 10 (.field 0 (t 3)), []), (m 11 (.field 0 (t 10)), [5]), (m 12 (.load (some 17) (t 11)), [6]), (m 13 (.field 0 (t 2)), []), (m 14 (.field 0 (t 13)), [8]), (m 15 (.load (some 17) (t 14)), [9]), (m 16 (.call false 74 [(t 12), (t 15)]), [7, 10, 4]), (m 17 (.field 35 (t 2)), []), (m 18 (.load none (t 17)), [12]), (m 19 (.field 35 (t 3)), []), (m 20 (.load none (t 19)), [14]), (m 21 (.call false 75 [(t 18), (t 20)]), [13, 15, 11]), (m 22 (.buildSlice 2 1 3 [q] [(0, (t 9)), (1, (t 16)), (2, (t 21))]), [4, 11, 16]), (m 23 (.call false 72 [(t 22)]), [17, 16]), (m 4 (.mov (t 23)), [18, 18, 0, 1, 2, 3, 4, 5, 6, 7, 8, 9, 10, 11, 12, 13, 14, 15, 16, 17, 18])] [(1, 0), (1, 1), (1, 2), (1, 3), (1, 4), (1, 5), (1, 6), (1, 7), (1, 8), (1, 9), (1, 10), (1, 11), (1, 12), (1, 13), (1, 14), (1, 15), (1, 16), (0, 17), (1, 18), (2, 19)] [0, 1, 0, 4, 15, 0, 32, 96, 0, 256, 768, 2047, 0, 4096, 0, 16384, 65535, 131071, 262143, 524287]) <|
  .ret
def vf71 : VFun := ⟨24, 3, vb71, [.tmp 4], false⟩
theorem cf71 : cFun Tryz.prog rawF false Tryz.f71 = some vf71 := by kernel_rfl
theorem T71 (h : HT σ args Post vb71 vf71 [dd, dd, dd]) (hl : args.length ≤ 24 := by exact Nat.le_of_ble_eq_true rfl) : T Tryz.prog 71 args σ Post := T.walk Tryz.func71 cf71 hl rfl h
@[reducible] def vb75 : VC :=
  .seq (.region [m 4 (.mov (.c q))]) <|
  .seq (.region [m 7 (.mov (t 0)), m 8 (.call false 123 [(t 7)]), m 5 (.mov (t 8))]) <|
  .seq (.region [m 9 (.mov (t 1)), m 10 (.call false 123 [(t 9)]), m 6 (.mov (t 10))]) <|
  .seq (.seq (.region [m 11 (.mov (t 5))]) <|
  .cond (t 11) (.seq (.seq (.region [m 12 (.mov (t 6))]) <|
  .cond (t 12) (.seq (.region [m 4 (.mov (.c q))]) <|
  .ret) (.skip)) <|
  .seq (.region [m 4 (.mov (.c (i (-1))))]) <|
  .ret) (.skip)) <|
  .seq (.seq (.region [m 13 (.mov (t 6))]) <|
  .cond (t 13) (.seq (.region [m 4 (.mov (.c (i 1)))]) <|
  .ret) (.skip)) <|
  .seq (.seq (.region [m 14 (.mov (t 0)), m 15 (.mov (t 1)), m 16 (.bin .lss .num (t 14) (t 15))]) <|
  .cond (t 16) (.seq (.region [m 4 (.mov (.c (i (-1))))]) <|
  .ret) (.skip)) <|
  .seq (.seq (.region [m 17 (.mov (t 0)), m 18 (.mov (t 1)), m 19 (.bin .gtr .num (t 17) (t 18))]) <|
  .cond (t 19) (.seq (.region [m 4 (.mov (.c (i 1)))]) <|
  .ret) (.skip)) <|
  .seq (.region [m 4 (.mov (.c q))]) <|
  .ret
def vf75 : VFun := ⟨20, 0, vb75, [.tmp 4], false⟩
theorem cf75 : cFun Tryz.prog rawF false Tryz.f75 = some vf75 := by kernel_rfl
theorem T75 (h : HT σ args Post vb75 vf75 []) (hl : args.length ≤ 20 := by exact Nat.le_of_ble_eq_true rfl) : T Tryz.prog 75 args σ Post := T.walk Tryz.func75 cf75 hl rfl h
@[reducible] def vb123 : VC :=
  .seq (.region [m 2 (.mov (.c (.bool false)))]) <|
  .seq (.region [m 3 (.mov (t 0)), m 4 (.mov (t 0)), m 5 (.bin .neq .num (t 3) (t 4)), m 2 (.mov (t 5))]) <|
  .ret
def vf123 : VFun := ⟨6, 0, vb123, [.tmp 2], false⟩
theorem cf123 : cFun Tryz.prog rawF false Tryz.f123 = some vf123 := by kernel_rfl
theorem T123 (h : HT σ args Post vb123 vf123 []) (hl : args.length ≤ 6 := by exact Nat.le_of_ble_eq_true rfl) : T Tryz.prog 123 args σ Post := T.walk Tryz.func123 cf123 hl rfl h
@[reducible] def vb119 : VC :=
  .seq (.region [m 3 (.box 0 (t 0)), m 4 (.box 1 (t 1)), m 6 (.newRow 2 132)]) <|
  .seq (.region [m 7 (.newRow 3 132)]) <|
  .seq (.seq (.region [m 10 (.mov (t 2)), m 11 (.len (t 10)), m 12 (.mov (.c q))]) <|
  .block 0 <| .loop <| .seq (.region [m 13 (.bin .lss .num (t 12) (t 11))]) <|
  .seq (.cond (t 13) (.skip) (.exit 0)) <|
  .seq (.block 1 <| .seq (.region [m 14 (.index 132 (t 10) (t 12)), m 15 (.load (some 132) (t 14)), m 9 (.alloc 4 [q, q, q, o, o, o, o, o, o, o, o, q, q, o, o, o, o, o, o, o, o, o, o, o, o, o, o, o, o, q, o, o, o, o, o, o, o, o, o, o, o, o, o, o, o, o, q, o, o, o, o, o, o, o, o, o, o, o, o, o, o, o, o, (.str []), o, o, o, o, o, o, o, o, q, o, o, o, o, o, o, o, o, o, o, o, o, o, o, o, o, q, q, q, o, o, o, o, o, o, o, o, o, o, o, o, o, o, o, o, q, .nils, q, q, q, o, o, o, o, o, o, o, o, o, o, o, o, o, o, o, o, .nils, .nils, .nils]), e (.store 132 (t 9) (t 15))]) <|
  .seq (.region [m 16 (.load (some 30) (t 3)), m 17 (.load (some 17) (t 4)), m 18 (.load (some 132) (t 9)), m 19 (.call false 50 [(t 16), (t 17), (t 18)])]) <|
  .cond (t 19) (.region [m 20 (.mov (t 7)), m 21 (.load (some 132) (t 9)), m 22 (.buildSlice 5 132 1 [q, q, q, o, o, o, o, o, o, o, o, q, q, o, o, o, o, o, o, o, o, o, o, o, o, o, o, o, o, q, o, o, o, o, o, o, o, o, o, o, o, o, o, o, o, o, q, o, o, o, o, o, o, o, o, o, o, o, o, o, o, o, o, (.str []), o, o, o, o, o, o, o, o, q, o, o, o, o, o, o, o, o, o, o, o, o, o, o, o, o, q, q, q, o, o, o, o, o, o, o, o, o, o, o, o, o, o, o, o, q, .nils, q, q, q, o, o, o, o, o, o, o, o, o, o, o, o, o, o, o, o, .nils, .nils, .nils] [(0, (t 21))]), m 23 (.append 6 132 344 (t 20) (t 22)), m 7 (.mov (t 23))]) (.skip)) <|
  .region [m 24 (.bin .add .num (t 12) (.c (i 1))), m 12 (.mov (t 24))]) <|
  .seq (.region [m 25 (.mov (t 7)), m 6 (.mov (t 25))]) <|
  .ret
def vf119 : VFun := ⟨26, 7, vb119, [.tmp 6], false⟩
theorem cf119 : cFun Tryz.prog rawF false Tryz.f119 = some vf119 := by kernel_rfl
theorem T119 (h : HT σ args Post vb119 vf119 [dd, dd, dd, dd, dd, dd, dd]) (hl : args.length ≤ 26 := by exact Nat.le_of_ble_eq_true rfl) : T Tryz.prog 119 args σ Post := T.walk Tryz.func119 cf119 hl rfl h
@[reducible] def vb120 : VC :=
  .seq (.region [m 1 (.box 0 (t 0)), m 2 (.alloc 1 [q, o, o, o, o, o, o, o, o, o, o, o, o, o, o, o, o, o, o, o, o, o, o, o, o, q, o, o, o, o, o, o, o, o]), m 3 (.mov (.c (.bool false)))]) <|
  .seq (.region [m 7 (.field 64 (t 1)), m 8 (.field 0 (t 7)), m 9 (.load (some 8) (t 8)), m 10 (.field 26 (t 2)), e (.store 8 (t 10) (t 9))]) <|
  .seq (.region [m 4 (.mov (.c (.bool false)))]) <|
  .seq (.seq (.region [m 11 (.field 108 (t 1)), m 12 (.field 22 (t 11)), m 13 (.load none (t 12)), m 14 (.len (t 13)), m 15 (.mov (.c q))]) <|
  .block 0 <| .loop <| .seq (.region [m 16 (.bin .lss .num (t 15) (t 14))]) <|
  .seq (.cond (t 16) (.skip) (.exit 0)) <|
  .seq (.block 1 <| .seq (.region [m 17 (.index 8 (t 13) (t 15)), m 18 (.load (some 8) (t 17)), m 6 (.alloc 2 [o, o, o, o, o, o, o, o]), e (.store 8 (t 6) (t 18))]) <|
  .seq (.region [m 19 (.load (some 8) (t 6)), m 20 (.call false 100 [(t 19)])]) <|
  .block 2 <| .seq (.region [m 22 (.bin .eql .num (t 20) (.c (i 2))), m 21 (.mov (t 22))]) <|
  .cond (t 21) (.seq (.region [m 23 (.mov (t 3)), m 24 (.un .not (t 23))]) <|
  .cond (t 24) (.seq (.region [m 25 (.load (some 8) (t 6)), m 26 (.field 17 (t 2)), e (.store 8 (t 26) (t 25)), m 3 (.mov (.c (.bool true)))]) <|
  .region [m 28 (.load (some 8) (t 6)), m 29 (.call false 102 [(t 28)]), m 27 (.mov (t 29)), m 30 (.extract 0 (t 27)), m 31 (.extract 1 (t 27)), m 32 (.extract 2 (t 27)), m 33 (.field 0 (t 2)), e (.store 17 (t 33) (t 30))]) (.skip)) (.seq (.region [m 35 (.bin .eql .num (t 20) (.c (i 3))), m 34 (.mov (t 35))]) <|
  .cond (t 34) (.seq (.region [m 36 (.mov (t 4)), m 37 (.un .not (t 36))]) <|
  .cond (t 37) (.region [m 39 (.load (some 8) (t 6)), m 40 (.call false 105 [(t 39)]), m 38 (.mov (t 40)), m 41 (.extract 0 (t 38)), m 42 (.extract 1 (t 38)), m 43 (.field 25 (t 2)), e (.store 1 (t 43) (t 41)), m 4 (.mov (t 42))]) (.skip)) (.skip))) <|
  .region [m 44 (.bin .add .num (t 15) (.c (i 1))), m 15 (.mov (t 44))]) <|
  .seq (.region [m 45 (.load (some 34) (t 2)), m 46 (.mov (t 3)), e (.store 34 (t 2) (t 45)), m 3 (.mov (t 46))]) <|
  .ret
def vf120 : VFun := ⟨47, 3, vb120, [.cell 2 (some 34), .tmp 3], false⟩
theorem cf120 : cFun Tryz.prog rawF false Tryz.f120 = some vf120 := by kernel_rfl
theorem T120 (h : HT σ args Post vb120 vf120 [dd, dd, dd]) (hl : args.length ≤ 47 := by exact Nat.le_of_ble_eq_true rfl) : T Tryz.prog 120 args σ Post := T.walk Tryz.func120 cf120 hl rfl h
end Go.Proofs.YtjhmobdncjhcnaaGreatDoor
