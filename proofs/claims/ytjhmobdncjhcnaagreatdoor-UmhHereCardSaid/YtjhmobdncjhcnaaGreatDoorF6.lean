/- Functions of the program, in the small language. -/
import Derived.Test.YtjhmobdncjhcnaaGreatDoorF1
namespace Go.Proofs.YtjhmobdncjhcnaaGreatDoor
open Go Go.V D
variable {args : List PV} {σ : VHeap} {Post : KP}
@[reducible] def vb6 : VC :=
  .seq (.region [m 3 (.box 0 (t 1)), m 4 (.mov (.c (.bool false)))]) <|
  .seq (.region [m 14 (.call false 18 []), m 5 (.mov (t 14))]) <|
  .seq (.seq (.region [m 15 (.mov (t 0)), m 16 (.len (t 15)), m 17 (.bin .gtr .num (t 16) (.c (i 20))), m 18 (.mov (t 17)), g 19 18 false (.mov (t 0)), g 20 18 false (.call false 19 [(t 19)]), g 21 18 false (.un .not (t 20)), m 22 (.pick (t 18) (.c (.bool true)) (t 21))]) <|
  .cond (t 22) (.seq (.region [m 23 (.mov (t 5)), m 4 (.mov (t 23))]) <|
  .ret) (.skip)) <|
  .seq (.region [m 25 (.load (some 17) (t 3)), m 26 (.call false 20 [(t 25), (.c q)]), m 24 (.mov (t 26)), m 27 (.extract 0 (t 24)), m 28 (.extract 1 (t 24)), m 6 (.alloc 1 [o, o, o, o, o, o, o, o]), e (.store 8 (t 6) (t 27)), m 7 (.mov (t 28))]) <|
  .seq (.seq (.region [m 8 (.mov (.c q))]) <|
  .block 0 <| .loop <| .seq (.seq (.region [m 29 (.mov (t 8)), m 30 (.mov (t 0)), m 31 (.len (t 30)), m 32 (.bin .lss .num (t 29) (t 31))]) <|
  .cond (t 32) (.skip) (.exit 0)) <|
  .seq (.block 1 <| .seq (.dreg [(m 36 (.load (some 17) (t 3)), []), (m 37 (.mov (t 0)), []), (m 38 (.mov (t 8)), []), (m 39 (.index 30 (t 37) (t 38)), [1, 2]), (m 40 (.field 1 (t 39)), [3]), (m 41 (.load none (t 40)), [4]), (m 42 (.call false 20 [(t 36), (t 41)]), [0, 5]), (m 35 (.mov (t 42)), [6]), (m 43 (.extract 0 (t 35)), [7]), (m 44 (.extract 1 (t 35)), [7]), (m 9 (.alloc 2 [o, o, o, o, o, o, o, o]), []), (e (.store 8 (t 9) (t 43)), [10, 8, 6, 0, 1, 2, 3, 4, 5, 6, 7, 8, 10]), (m 10 (.mov (t 44)), [9, 11, 0, 1, 2, 3, 4, 5, 6, 7, 8, 9, 10, 11])] [(2, 0), (2, 1), (2, 2), (2, 3), (2, 4), (2, 5), (2, 6), (2, 7), (2, 8), (2, 9), (0, 10), (0, 11), (2, 12)] [0, 0, 0, 6, 14, 30, 63, 127, 255, 255, 0, 1535, 4095]) <|
  .seq (.seq (.region [m 45 (.mov (t 10)), m 46 (.mov (t 7)), m 47 (.bin .neq .num (t 45) (t 46)), m 48 (.mov (t 47)), g 49 48 false (.mov (t 7)), g 50 48 false (.bin .eql .num (t 49) (.c q)), g 51 48 false (.mov (t 50)), g 52 51 true (.load (some 8) (t 9)), g 53 51 true (.load (some 8) (t 6)), g 54 51 true (.eqAgg [(.i .u8), (.i .u8), (.i .u8), (.i .u8), (.i .u8), (.i .u8), (.i .u8), (.i .u8)] false (t 52) (t 53)), g 55 48 false (.pick (t 51) (t 54) (.c (.bool false))), m 56 (.pick (t 48) (.c (.bool true)) (t 55))]) <|
  .cond (t 56) (.seq (.region [m 4 (.mov (.c (.bool false)))]) <|
  .ret) (.skip)) <|
  .seq (.region [m 11 (.mov (.c q))]) <|
  .block 2 <| .loop <| .seq (.seq (.region [m 57 (.mov (t 11)), m 58 (.mov (t 8)), m 59 (.bin .lss .num (t 57) (t 58))]) <|
  .cond (t 59) (.skip) (.exit 2)) <|
  .seq (.block 3 <| .seq (.dreg [(m 63 (.load (some 17) (t 3)), []), (m 64 (.mov (t 0)), []), (m 65 (.mov (t 11)), []), (m 66 (.index 30 (t 64) (t 65)), [1, 2]), (m 67 (.field 1 (t 66)), [3]), (m 68 (.load none (t 67)), [4]), (m 69 (.call false 20 [(t 63), (t 68)]), [0, 5]), (m 62 (.mov (t 69)), [6]), (m 70 (.extract 0 (t 62)), [7]), (m 71 (.extract 1 (t 62)), [7]), (m 12 (.alloc 3 [o, o, o, o, o, o, o, o]), []), (e (.store 8 (t 12) (t 70)), [10, 8, 6, 0, 1, 2, 3, 4, 5, 6, 7, 8, 10]), (m 13 (.mov (t 71)), [9, 11, 0, 1, 2, 3, 4, 5, 6, 7, 8, 9, 10, 11])] [(2, 0), (2, 1), (2, 2), (2, 3), (2, 4), (2, 5), (2, 6), (2, 7), (2, 8), (2, 9), (0, 10), (0, 11), (2, 12)] [0, 0, 0, 6, 14, 30, 63, 127, 255, 255, 0, 1535, 4095]) <|
  .seq (.region [m 72 (.mov (t 7)), m 73 (.bin .eql .num (t 72) (.c q)), m 74 (.mov (t 73)), g 75 74 true (.load (some 8) (t 12)), g 76 74 true (.load (some 8) (t 9)), g 77 74 true (.eqAgg [(.i .u8), (.i .u8), (.i .u8), (.i .u8), (.i .u8), (.i .u8), (.i .u8), (.i .u8)] false (t 75) (t 76)), m 78 (.pick (t 74) (t 77) (.c (.bool false)))]) <|
  .cond (t 78) (.seq (.region [m 4 (.mov (.c (.bool false)))]) <|
  .ret) (.skip)) <|
  .region [m 60 (.mov (t 11)), m 61 (.bin .add .num (t 60) (.c (i 1))), m 11 (.mov (t 61))]) <|
  .region [m 33 (.mov (t 8)), m 34 (.bin .add .num (t 33) (.c (i 1))), m 8 (.mov (t 34))]) <|
  .seq (.region [m 79 (.mov (t 5)), m 4 (.mov (t 79))]) <|
  .ret
def vf6 : VFun := ⟨80, 4, vb6, [.tmp 4], false⟩
theorem cf6 : cFun Tryz.prog rawF false Tryz.f6 = some vf6 := by kernel_rfl
theorem T6 (h : HT σ args Post vb6 vf6 [dd, dd, dd, dd]) (hl : args.length ≤ 80 := by exact Nat.le_of_ble_eq_true rfl) : T Tryz.prog 6 args σ Post := T.walk Tryz.func6 cf6 hl rfl h
@[reducible] def vb7 : VC :=
  .seq (.region [m 3 (.box 0 (t 1)), m 4 (.mov (.c (.bool false)))]) <|
  .seq (.region [m 13 (.call false 18 []), m 5 (.mov (t 13))]) <|
  .seq (.region [m 14 (.load (some 30) (t 3)), m 15 (.call false 21 [(t 14)]), m 6 (.mov (t 15))]) <|
  .seq (.seq (.region [m 16 (.mov (t 0)), m 17 (.len (t 16)), m 18 (.bin .gtr .num (t 17) (.c (i 10))), m 19 (.mov (t 18)), g 20 19 false (.mov (t 6)), g 21 19 false (.un .not (t 20)), m 22 (.pick (t 19) (.c (.bool true)) (t 21)), m 23 (.mov (t 22)), g 24 23 false (.mov (t 0)), g 25 23 false (.call false 19 [(t 24)]), g 26 23 false (.un .not (t 25)), m 27 (.pick (t 23) (.c (.bool true)) (t 26))]) <|
  .cond (t 27) (.seq (.region [m 28 (.mov (t 5)), m 4 (.mov (t 28))]) <|
  .ret) (.skip)) <|
  .seq (.region [m 7 (.mov (.c (.bool true)))]) <|
  .seq (.seq (.region [m 8 (.mov (.c q))]) <|
  .block 0 <| .loop <| .seq (.seq (.region [m 29 (.mov (t 8)), m 30 (.mov (t 0)), m 31 (.len (t 30)), m 32 (.bin .lss .num (t 29) (t 31))]) <|
  .cond (t 32) (.skip) (.exit 0)) <|
  .seq (.block 1 <| .dreg [(m 35 (.mov (t 7)), []), (m 36 (.mov (t 35)), [0]), (g 37 36 true (.mov (t 0)), [1]), (g 38 36 true (.mov (t 8)), [1]), (g 39 36 true (.index 30 (t 37) (t 38)), [2, 3, 1]), (g 40 36 true (.field 0 (t 39)), [4, 1]), (g 41 36 true (.load none (t 40)), [5, 1]), (g 42 36 true (.field 0 (t 3)), [1]), (g 43 36 true (.load none (t 42)), [7, 1]), (g 44 36 true (.bin .neq .num (t 41) (t 43)), [6, 8, 1]), (m 45 (.pick (t 36) (t 44) (.c (.bool false))), [1, 9]), (m 46 (.mov (t 45)), [10, 1]), (g 47 46 true (.mov (t 0)), [11]), (g 48 46 true (.mov (t 8)), [11]), (g 49 46 true (.index 30 (t 47) (t 48)), [12, 13, 11]), (g 50 46 true (.field 1 (t 49)), [14, 11]), (g 51 46 true (.load none (t 50)), [15, 11]), (g 52 46 true (.field 1 (t 3)), [11]), (g 53 46 true (.load none (t 52)), [17, 11]), (g 54 46 true (.bin .neq .num (t 51) (t 53)), [16, 18, 11]), (m 55 (.pick (t 46) (t 54) (.c (.bool false))), [11, 19]), (m 56 (.mov (t 55)), [20, 11]), (g 57 56 true (.mov (t 0)), [21]), (g 58 56 true (.mov (t 8)), [21]), (g 59 56 true (.index 30 (t 57) (t 58)), [22, 23, 21]), (g 60 56 true (.field 2 (t 59)), [24, 21]), (g 61 56 true (.load (some 8) (t 60)), [25, 21]), (g 62 56 true (.field 2 (t 3)), [21]), (g 63 56 true (.load (some 8) (t 62)), [27, 21]), (g 64 56 true (.eqAgg [(.i .u8), (.i .u8), (.i .u8), (.i .u8), (.i .u8), (.i .u8), (.i .u8), (.i .u8)] true (t 61) (t 63)), [26, 28, 21]), (m 65 (.pick (t 56) (t 64) (.c (.bool false))), [21, 29]), (m 7 (.mov (t 65)), [30, 21, 0, 1, 2, 3, 4, 5, 6, 7, 8, 9, 10, 11, 12, 13, 14, 15, 16, 17, 18, 19, 20, 21, 22, 23, 24, 25, 26, 27, 28, 29, 30])] [(2, 0), (2, 1), (2, 2), (2, 3), (1, 4), (1, 5), (1, 6), (1, 7), (1, 8), (2, 9), (2, 10), (2, 11), (2, 12), (2, 13), (1, 14), (1, 15), (1, 16), (1, 17), (1, 18), (2, 19), (2, 20), (2, 21), (2, 22), (2, 23), (1, 24), (1, 25), (1, 26), (1, 27), (1, 28), (2, 29), (2, 30), (2, 31)] [0, 1, 3, 3, 15, 31, 63, 3, 131, 511, 1023, 2047, 4095, 4095, 16383, 32767, 65535, 4095, 135167, 524287, 1048575, 2097151, 4194303, 4194303, 16777215, 33554431, 67108863, 4194303, 138412031, 536870911, 1073741823, 2147483647]) <|
  .region [m 33 (.mov (t 8)), m 34 (.bin .add .num (t 33) (.c (i 1))), m 8 (.mov (t 34))]) <|
  .seq (.dreg [(m 66 (.buildSlice 1 30 0 [(.str []), q, o, o, o, o, o, o, o, o, .nils, .nils, q, o, o, o, o, o, o, o, o, o, o, o, o, o, o, o, o, .nils] []), []), (m 67 (.mov (t 0)), []), (m 68 (.append 2 30 128 (t 66) (t 67)), [0, 1]), (m 69 (.load (some 30) (t 3)), []), (m 70 (.buildSlice 3 30 1 [(.str []), q, o, o, o, o, o, o, o, o, .nils, .nils, q, o, o, o, o, o, o, o, o, o, o, o, o, o, o, o, o, .nils] [(0, (t 69))]), [3]), (m 71 (.append 4 30 128 (t 68) (t 70)), [2, 4, 2]), (m 9 (.mov (t 71)), [5, 5, 0, 1, 2, 3, 4, 5])] [(2, 1), (2, 3), (0, 0), (0, 2), (0, 4), (0, 5), (2, 6)] [0, 0, 3, 0, 8, 31, 63]) <|
  .seq (.region [m 73 (.mov (t 9)), m 74 (.field 0 (t 3)), m 75 (.load none (t 74)), m 76 (.call false 22 [(t 73), (t 75)]), m 72 (.mov (t 76)), m 77 (.extract 0 (t 72)), m 78 (.extract 1 (t 72)), m 10 (.alloc 5 [(.str []), q, o, o, o, o, o, o, o, o, .nils, .nils, q, o, o, o, o, o, o, o, o, o, o, o, o, o, o, o, o, .nils]), e (.store 30 (t 10) (t 77)), m 11 (.mov (t 78))]) <|
  .seq (.region [m 79 (.mov (t 9)), m 80 (.call false 19 [(t 79)]), m 12 (.mov (t 80))]) <|
  .seq (.seq (.region [m 81 (.mov (t 12)), m 82 (.mov (t 81)), g 83 82 true (.mov (t 11)), g 84 82 true (.un .not (t 83)), g 85 82 true (.mov (t 84)), g 86 85 false (.field 2 (t 10)), g 87 85 false (.load (some 8) (t 86)), g 88 85 false (.field 2 (t 3)), g 89 85 false (.load (some 8) (t 88)), g 90 85 false (.eqAgg [(.i .u8), (.i .u8), (.i .u8), (.i .u8), (.i .u8), (.i .u8), (.i .u8), (.i .u8)] true (t 87) (t 89)), g 91 82 true (.pick (t 85) (.c (.bool true)) (t 90)), m 92 (.pick (t 82) (t 91) (.c (.bool false)))]) <|
  .cond (t 92) (.seq (.region [m 4 (.mov (.c (.bool false)))]) <|
  .ret) (.skip)) <|
  .seq (.region [m 93 (.mov (t 5)), m 94 (.mov (t 93)), g 95 94 true (.mov (t 12)), g 96 94 true (.load (some 30) (t 3)), g 97 94 true (.call false 23 [(t 96)]), g 98 94 true (.mov (t 97)), g 99 98 true (.mov (t 7)), g 100 94 true (.pick (t 98) (t 99) (.c (.bool false))), g 101 94 true (.mov (t 100)), g 102 101 true (.mov (t 0)), g 103 101 true (.len (t 102)), g 104 101 true (.bin .lss .num (t 103) (.c (i 4))), g 105 94 true (.pick (t 101) (t 104) (.c (.bool false))), g 106 94 true (.bin .eql .bool (t 95) (t 105)), m 107 (.pick (t 94) (t 106) (.c (.bool false))), m 4 (.mov (t 107))]) <|
  .ret
def vf7 : VFun := ⟨108, 6, vb7, [.tmp 4], false⟩
theorem cf7 : cFun Tryz.prog rawF false Tryz.f7 = some vf7 := by kernel_rfl
theorem T7 (h : HT σ args Post vb7 vf7 [dd, dd, dd, dd, dd, dd]) (hl : args.length ≤ 108 := by exact Nat.le_of_ble_eq_true rfl) : T Tryz.prog 7 args σ Post := T.walk Tryz.func7 cf7 hl rfl h
@[reducible] def vb19 : VC :=
  .seq (.region [m 2 (.mov (.c (.bool false)))]) <|
  .seq (.seq (.region [m 6 (.mov (t 0)), m 7 (.len (t 6)), m 8 (.mov (.c q))]) <|
  .block 0 <| .loop <| .seq (.region [m 9 (.bin .lss .num (t 8) (t 7))]) <|
  .seq (.cond (t 9) (.skip) (.exit 0)) <|
  .seq (.block 1 <| .seq (.region [m 10 (.mov (t 8)), m 11 (.index 30 (t 6) (t 8)), m 12 (.load (some 30) (t 11)), m 4 (.alloc 0 [(.str []), q, o, o, o, o, o, o, o, o, .nils, .nils, q, o, o, o, o, o, o, o, o, o, o, o, o, o, o, o, o, .nils]), m 3 (.mov (t 10)), e (.store 30 (t 4) (t 12))]) <|
  .seq (.region [m 13 (.func 52 [(t 4)]), m 5 (.mov (t 13))]) <|
  .seq (.region [m 14 (.load (some 30) (t 4)), m 15 (.call false 23 [(t 14)]), m 16 (.un .not (t 15)), m 17 (.mov (t 16)), g 18 17 false (.mov (t 0)), g 19 17 false (.mov (t 3)), g 20 17 false (.slice 30 (t 18) none (some (t 19))), g 21 17 false (.mov (t 5)), g 22 17 false (.call false 53 [(t 20), (t 21)]), m 23 (.pick (t 17) (.c (.bool true)) (t 22))]) <|
  .cond (t 23) (.seq (.region [m 2 (.mov (.c (.bool false)))]) <|
  .ret) (.skip)) <|
  .region [m 24 (.bin .add .num (t 8) (.c (i 1))), m 8 (.mov (t 24))]) <|
  .seq (.region [m 25 (.mov (t 0)), m 26 (.len (t 25)), m 27 (.bin .leq .num (t 26) (.c (i 4))), m 2 (.mov (t 27))]) <|
  .ret
def vf19 : VFun := ⟨28, 1, vb19, [.tmp 2], false⟩
theorem cf19 : cFun Tryz.prog rawF false Tryz.f19 = some vf19 := by kernel_rfl
theorem T19 (h : HT σ args Post vb19 vf19 [dd]) (hl : args.length ≤ 28 := by exact Nat.le_of_ble_eq_true rfl) : T Tryz.prog 19 args σ Post := T.walk Tryz.func19 cf19 hl rfl h
@[reducible] def vb20 : VC :=
  .seq (.region [m 2 (.box 0 (t 0)), m 4 (.alloc 1 [o, o, o, o, o, o, o, o]), m 5 (.mov (.c q))]) <|
  .seq (.seq (.region [m 6 (.load (some 17) (t 2)), m 7 (.call false 54 [(t 6)]), m 8 (.un .not (t 7)), m 9 (.mov (t 8)), g 10 9 false (.field 0 (t 2)), g 11 9 false (.load none (t 10)), g 12 9 false (.bin .neq .num (t 11) (.c (i 4))), m 13 (.pick (t 9) (.c (.bool true)) (t 12))]) <|
  .cond (t 13) (.seq (.region [m 14 (.build [o, o, o, o, o, o, o, o] []), e (.store 8 (t 4) (t 14)), m 5 (.mov (.c (i 1)))]) <|
  .ret) (.skip)) <|
  .seq (.region [m 15 (.load (some 17) (t 2)), m 16 (.call false 57 [(t 15)]), m 17 (.call false 56 [(t 16)]), m 18 (.call false 58 [(t 17), (.c (i 4))]), m 19 (.mov (t 1)), m 20 (.call false 55 [(.c (i 1)), (t 18), (t 19)]), m 21 (.extract 0 (t 20)), m 22 (.extract 1 (t 20)), e (.store 8 (t 4) (t 21)), m 5 (.mov (t 22))]) <|
  .ret
def vf20 : VFun := ⟨23, 2, vb20, [.cell 4 (some 8), .tmp 5], false⟩
theorem cf20 : cFun Tryz.prog rawF false Tryz.f20 = some vf20 := by kernel_rfl
theorem T20 (h : HT σ args Post vb20 vf20 [dd, dd]) (hl : args.length ≤ 23 := by exact Nat.le_of_ble_eq_true rfl) : T Tryz.prog 20 args σ Post := T.walk Tryz.func20 cf20 hl rfl h
@[reducible] def vb21 : VC :=
  .seq (.region [m 1 (.box 0 (t 0)), m 2 (.mov (.c (.bool false)))]) <|
  .seq (.region [m 3 (.field 0 (t 1)), m 4 (.load none (t 3)), m 5 (.lenStr (t 4)), m 6 (.bin .lss .num (t 5) (.c (i 1024))), m 7 (.mov (t 6)), g 8 7 true (.field 10 (t 1)), g 9 7 true (.load none (t 8)), g 10 7 true (.len (t 9)), g 11 7 true (.bin .lss .num (t 10) (.c (i 50))), m 12 (.pick (t 7) (t 11) (.c (.bool false))), m 13 (.mov (t 12)), g 14 13 true (.field 11 (t 1)), g 15 13 true (.load none (t 14)), g 16 13 true (.len (t 15)), g 17 13 true (.bin .lss .num (t 16) (.c (i 50))), m 18 (.pick (t 13) (t 17) (.c (.bool false))), m 19 (.mov (t 18)), g 20 19 true (.field 29 (t 1)), g 21 19 true (.load none (t 20)), g 22 19 true (.len (t 21)), g 23 19 true (.bin .lss .num (t 22) (.c (i 50))), m 24 (.pick (t 19) (t 23) (.c (.bool false))), m 2 (.mov (t 24))]) <|
  .ret
def vf21 : VFun := ⟨25, 1, vb21, [.tmp 2], false⟩
theorem cf21 : cFun Tryz.prog rawF false Tryz.f21 = some vf21 := by kernel_rfl
theorem T21 (h : HT σ args Post vb21 vf21 [dd]) (hl : args.length ≤ 25 := by exact Nat.le_of_ble_eq_true rfl) : T Tryz.prog 21 args σ Post := T.walk Tryz.func21 cf21 hl rfl h
@[reducible] def vb22 : VC :=
  .seq (.region [m 3 (.box 0 (t 1)), m 4 (.alloc 1 [(.str []), q, o, o, o, o, o, o, o, o, .nils, .nils, q, o, o, o, o, o, o, o, o, o, o, o, o, o, o, o, o, .nils]), m 5 (.mov (.c (.bool false)))]) <|
  .seq (.region [m 7 (.mov (t 0)), m 8 (.func 60 [(t 3)]), m 9 (.call false 59 [(t 7), (t 8)]), m 6 (.mov (t 9))]) <|
  .seq (.seq (.region [m 10 (.mov (t 6)), m 11 (.bin .lss .num (t 10) (.c q))]) <|
  .cond (t 11) (.seq (.region [m 12 (.build [(.str []), q, o, o, o, o, o, o, o, o, .nils, .nils, q, o, o, o, o, o, o, o, o, o, o, o, o, o, o, o, o, .nils] []), e (.store 30 (t 4) (t 12)), m 5 (.mov (.c (.bool false)))]) <|
  .ret) (.skip)) <|
  .seq (.region [m 13 (.mov (t 0)), m 14 (.mov (t 6)), m 15 (.index 30 (t 13) (t 14)), m 16 (.load (some 30) (t 15)), m 17 (.call false 61 [(t 16)]), e (.store 30 (t 4) (t 17)), m 5 (.mov (.c (.bool true)))]) <|
  .ret
def vf22 : VFun := ⟨18, 2, vb22, [.cell 4 (some 30), .tmp 5], false⟩
theorem cf22 : cFun Tryz.prog rawF false Tryz.f22 = some vf22 := by kernel_rfl
theorem T22 (h : HT σ args Post vb22 vf22 [dd, dd]) (hl : args.length ≤ 18 := by exact Nat.le_of_ble_eq_true rfl) : T Tryz.prog 22 args σ Post := T.walk Tryz.func22 cf22 hl rfl h
@[reducible] def vb23 : VC :=
  .seq (.region [m 1 (.box 0 (t 0)), m 2 (.mov (.c (.bool false)))]) <|
  .seq (.region [m 8 (.field 2 (t 1)), m 9 (.load (some 8) (t 8)), m 10 (.call false 62 [(t 9)]), m 7 (.mov (t 10)), m 11 (.extract 0 (t 7)), m 12 (.extract 1 (t 7)), m 13 (.extract 2 (t 7)), m 14 (.extract 3 (t 7)), m 3 (.mov (t 11)), m 4 (.mov (t 12)), m 5 (.mov (t 13)), m 6 (.mov (t 14))]) <|
  .seq (.block 0 <| .seq (.seq (.region [m 16 (.mov (t 6)), m 17 (.un .not (t 16)), m 15 (.mov (t 17))]) <|
  .cond (t 15) (.skip) (.seq (.region [m 18 (.field 0 (t 1)), m 19 (.load none (t 18)), m 20 (.call false 63 [(t 19)]), m 21 (.un .not (t 20)), m 15 (.mov (t 21))]) <|
  .cond (t 15) (.skip) (.seq (.region [m 22 (.field 1 (t 1)), m 23 (.load none (t 22)), m 24 (.bin .lss .num (t 23) (.c (i 1))), m 15 (.mov (t 24))]) <|
  .cond (t 15) (.skip) (.region [m 25 (.field 1 (t 1)), m 26 (.load none (t 25)), m 27 (.bin .geq .num (t 26) (.c (i 65536))), m 15 (.mov (t 27))])))) <|
  .cond (t 15) (.seq (.region [m 2 (.mov (.c (.bool false)))]) <|
  .ret) (.seq (.seq (.region [m 29 (.field 10 (t 1)), m 30 (.load none (t 29)), m 31 (.call false 64 [(t 30)]), m 32 (.un .not (t 31)), m 28 (.mov (t 32))]) <|
  .cond (t 28) (.skip) (.region [m 33 (.field 11 (t 1)), m 34 (.load none (t 33)), m 35 (.call false 64 [(t 34)]), m 36 (.un .not (t 35)), m 28 (.mov (t 36))])) <|
  .cond (t 28) (.seq (.region [m 2 (.mov (.c (.bool false)))]) <|
  .ret) (.seq (.seq (.region [m 38 (.field 12 (t 1)), m 39 (.load (some 17) (t 38)), m 40 (.call false 54 [(t 39)]), m 41 (.un .not (t 40)), m 37 (.mov (t 41))]) <|
  .cond (t 37) (.skip) (.seq (.region [m 42 (.field 12 (t 1)), m 43 (.load (some 17) (t 42)), m 44 (.call false 65 [(t 43)]), m 37 (.mov (t 44))]) <|
  .cond (t 37) (.skip) (.region [m 45 (.field 29 (t 1)), m 46 (.load none (t 45)), m 47 (.len (t 46)), m 48 (.bin .gtr .num (t 47) (.c (i 4))), m 37 (.mov (t 48))]))) <|
  .cond (t 37) (.seq (.region [m 2 (.mov (.c (.bool false)))]) <|
  .ret) (.skip)))) <|
  .seq (.region [m 49 (.field 29 (t 1)), m 50 (.load none (t 49)), m 51 (.call false 41 [(t 50), (.c (.fn 66 []))]), m 52 (.un .not (t 51)), m 2 (.mov (t 52))]) <|
  .ret
def vf23 : VFun := ⟨53, 1, vb23, [.tmp 2], false⟩
theorem cf23 : cFun Tryz.prog rawF false Tryz.f23 = some vf23 := by kernel_rfl
theorem T23 (h : HT σ args Post vb23 vf23 [dd]) (hl : args.length ≤ 53 := by exact Nat.le_of_ble_eq_true rfl) : T Tryz.prog 23 args σ Post := T.walk Tryz.func23 cf23 hl rfl h
@[reducible] def vb52 : VC :=
  .seq (.region [m 2 (.box 0 (t 0)), m 3 (.mov (.c (.bool false)))]) <|
  .seq (.region [m 4 (.field 0 (t 2)), m 5 (.load none (t 4)), m 6 (.field 0 (t 1)), m 7 (.load none (t 6)), m 8 (.bin .eql .num (t 5) (t 7)), m 9 (.mov (t 8)), g 10 9 false (.field 1 (t 2)), g 11 9 false (.load none (t 10)), g 12 9 false (.field 1 (t 1)), g 13 9 false (.load none (t 12)), g 14 9 false (.bin .eql .num (t 11) (t 13)), m 15 (.pick (t 9) (.c (.bool true)) (t 14)), m 16 (.mov (t 15)), g 17 16 false (.field 2 (t 2)), g 18 16 false (.load (some 8) (t 17)), g 19 16 false (.field 2 (t 1)), g 20 16 false (.load (some 8) (t 19)), g 21 16 false (.eqAgg [(.i .u8), (.i .u8), (.i .u8), (.i .u8), (.i .u8), (.i .u8), (.i .u8), (.i .u8)] false (t 18) (t 20)), m 22 (.pick (t 16) (.c (.bool true)) (t 21)), m 3 (.mov (t 22))]) <|
  .ret
def vf52 : VFun := ⟨23, 1, vb52, [.tmp 3], false⟩
theorem cf52 : cFun Tryz.prog rawF false Tryz.f52 = some vf52 := by kernel_rfl
theorem T52 (h : HT σ args Post vb52 vf52 [dd]) (hl : args.length ≤ 23 := by exact Nat.le_of_ble_eq_true rfl) : T Tryz.prog 52 args σ Post := T.walk Tryz.func52 cf52 hl rfl h
@[reducible] def vb53 : VC :=
  .seq (.region [m 4 (.mov (.c (.bool false)))]) <|
  .seq (.region [m 5 (.mov (t 0)), m 6 (.mov (t 1)), m 7 (.call false 59 [(t 5), (t 6)]), m 8 (.bin .geq .num (t 7) (.c q)), m 4 (.mov (t 8))]) <|
  .ret
def vf53 : VFun := ⟨9, 0, vb53, [.tmp 4], false⟩
theorem cf53 : cFun Tryz.prog rawF false Tryz.f53 = some vf53 := by kernel_rfl
theorem T53 (h : HT σ args Post vb53 vf53 []) (hl : args.length ≤ 9 := by exact Nat.le_of_ble_eq_true rfl) : T Tryz.prog 53 args σ Post := T.walk Tryz.func53 cf53 hl rfl h
@[reducible] def vb59 : VC :=
  .seq (.region [m 4 (.mov (.c q))]) <|
  .seq (.seq (.region [m 6 (.mov (t 0)), m 7 (.len (t 6)), m 8 (.mov (.c q))]) <|
  .block 0 <| .loop <| .seq (.region [m 9 (.bin .lss .num (t 8) (t 7))]) <|
  .seq (.cond (t 9) (.skip) (.exit 0)) <|
  .seq (.block 1 <| .seq (.region [m 10 (.mov (t 8)), m 5 (.mov (t 10))]) <|
  .seq (.region [m 11 (.mov (t 1)), m 12 (.mov (t 0)), m 13 (.mov (t 5)), m 14 (.index 30 (t 12) (t 13)), m 15 (.load (some 30) (t 14)), m 16 (.callV (t 11) [(t 15)])]) <|
  .cond (t 16) (.seq (.region [m 17 (.mov (t 5)), m 4 (.mov (t 17))]) <|
  .ret) (.skip)) <|
  .region [m 18 (.bin .add .num (t 8) (.c (i 1))), m 8 (.mov (t 18))]) <|
  .seq (.region [m 4 (.mov (.c (i (-1))))]) <|
  .ret
def vf59 : VFun := ⟨19, 0, vb59, [.tmp 4], false⟩
theorem cf59 : cFun Tryz.prog rawF false Tryz.f59 = some vf59 := by kernel_rfl
theorem T59 (h : HT σ args Post vb59 vf59 []) (hl : args.length ≤ 19 := by exact Nat.le_of_ble_eq_true rfl) : T Tryz.prog 59 args σ Post := T.walk Tryz.func59 cf59 hl rfl h
@[reducible] def vb60 : VC :=
  .seq (.region [m 2 (.box 0 (t 0)), m 3 (.mov (.c (.bool false)))]) <|
  .seq (.region [m 4 (.field 0 (t 2)), m 5 (.load none (t 4)), m 6 (.load none (t 1)), m 7 (.bin .eql .num (t 5) (t 6)), m 3 (.mov (t 7))]) <|
  .ret
def vf60 : VFun := ⟨8, 1, vb60, [.tmp 3], false⟩
theorem cf60 : cFun Tryz.prog rawF false Tryz.f60 = some vf60 := by kernel_rfl
theorem T60 (h : HT σ args Post vb60 vf60 [dd]) (hl : args.length ≤ 8 := by exact Nat.le_of_ble_eq_true rfl) : T Tryz.prog 60 args σ Post := T.walk Tryz.func60 cf60 hl rfl h
@[reducible] def vb61 : VC :=
  .seq (.region [m 1 (.box 0 (t 0)), m 2 (.alloc 1 [(.str []), q, o, o, o, o, o, o, o, o, .nils, .nils, q, o, o, o, o, o, o, o, o, o, o, o, o, o, o, o, o, .nils])]) <|
  .seq (.dreg [(m 3 (.field 10 (t 1)), []), (m 4 (.load none (t 3)), [0]), (m 5 (.call false 113 [(t 4)]), [1]), (m 6 (.field 11 (t 1)), []), (m 7 (.load none (t 6)), [3]), (m 8 (.call false 113 [(t 7)]), [4, 2]), (m 9 (.field 29 (t 1)), []), (m 10 (.load none (t 9)), [6]), (m 11 (.call false 114 [(t 10)]), [7, 5]), (m 12 (.field 10 (t 1)), [0, 1, 2, 3, 4, 6, 7]), (e (.store 1 (t 12) (t 5)), [9, 2, 8, 0, 1, 2, 3, 4, 6, 7]), (m 13 (.field 11 (t 1)), [0, 1, 2, 3, 4, 5, 6, 7, 9, 10]), (e (.store 1 (t 13) (t 8)), [11, 5, 10, 0, 1, 2, 3, 4, 5, 6, 7, 9, 10]), (m 14 (.field 29 (t 1)), [0, 1, 2, 3, 4, 5, 6, 7, 8, 9, 10, 11, 12]), (e (.store 1 (t 14) (t 11)), [13, 8, 12, 0, 1, 2, 3, 4, 5, 6, 7, 8, 9, 10, 11, 12])] [(1, 0), (1, 1), (1, 2), (1, 3), (1, 4), (1, 5), (1, 6), (1, 7), (1, 8), (1, 9), (0, 10), (1, 11), (0, 12), (1, 13), (0, 14)] [0, 1, 3, 0, 8, 31, 0, 64, 255, 223, 1023, 2047, 4095, 8191, 16383]) <|
  .seq (.region [m 15 (.load (some 30) (t 1)), e (.store 30 (t 2) (t 15))]) <|
  .ret
def vf61 : VFun := ⟨16, 2, vb61, [.cell 2 (some 30)], false⟩
theorem cf61 : cFun Tryz.prog rawF false Tryz.f61 = some vf61 := by kernel_rfl
theorem T61 (h : HT σ args Post vb61 vf61 [dd, dd]) (hl : args.length ≤ 16 := by exact Nat.le_of_ble_eq_true rfl) : T Tryz.prog 61 args σ Post := T.walk Tryz.func61 cf61 hl rfl h
@[reducible] def vb63 : VC :=
  .seq (.region [m 2 (.mov (.c (.bool false)))]) <|
  .seq (.seq (.region [m 5 (.mov (t 0)), m 6 (.rangeStr 0 (t 5))]) <|
  .block 0 <| .loop <| .seq (.region [m 7 (.nextStr (t 6)), m 8 (.extract 0 (t 7))]) <|
  .seq (.cond (t 8) (.skip) (.exit 0)) <|
  .block 1 <| .seq (.region [m 9 (.extract 2 (t 7)), m 4 (.mov (t 9))]) <|
  .seq (.region [m 10 (.mov (t 4)), m 11 (.bin .lss .num (t 10) (.c (.int .i32 97))), m 12 (.mov (t 11)), g 13 12 false (.mov (t 4)), g 14 12 false (.bin .gtr .num (t 13) (.c (.int .i32 122))), m 15 (.pick (t 12) (.c (.bool true)) (t 14))]) <|
  .cond (t 15) (.seq (.region [m 2 (.mov (.c (.bool false)))]) <|
  .ret) (.skip)) <|
  .seq (.region [m 16 (.mov (t 0)), m 17 (.bin .neq .num (t 16) (.c (.str []))), m 18 (.mov (t 17)), g 19 18 true (.mov (t 0)), g 20 18 true (.lenStr (t 19)), g 21 18 true (.bin .leq .num (t 20) (.c (i 8))), m 22 (.pick (t 18) (t 21) (.c (.bool false))), m 2 (.mov (t 22))]) <|
  .ret
def vf63 : VFun := ⟨23, 1, vb63, [.tmp 2], false⟩
theorem cf63 : cFun Tryz.prog rawF false Tryz.f63 = some vf63 := by kernel_rfl
theorem T63 (h : HT σ args Post vb63 vf63 [dd]) (hl : args.length ≤ 23 := by exact Nat.le_of_ble_eq_true rfl) : T Tryz.prog 63 args σ Post := T.walk Tryz.func63 cf63 hl rfl h
@[reducible] def vb64 : VC :=
  .seq (.region [m 2 (.mov (.c (.bool false)))]) <|
  .seq (.region [m 3 (.mov (.c (.fn 117 [])))]) <|
  .seq (.region [m 4 (.mov (t 0)), m 5 (.len (t 4)), m 6 (.bin .geq .num (t 5) (.c (i 1))), m 7 (.mov (t 6)), g 8 7 true (.mov (t 0)), g 9 7 true (.len (t 8)), g 10 7 true (.bin .leq .num (t 9) (.c (i 8))), m 11 (.pick (t 7) (t 10) (.c (.bool false))), m 12 (.mov (t 11)), g 13 12 true (.mov (t 0)), g 14 12 true (.mov (t 3)), g 15 12 true (.call false 118 [(t 13), (t 14)]), g 16 12 true (.un .not (t 15)), m 17 (.pick (t 12) (t 16) (.c (.bool false))), m 2 (.mov (t 17))]) <|
  .ret
def vf64 : VFun := ⟨18, 0, vb64, [.tmp 2], false⟩
theorem cf64 : cFun Tryz.prog rawF false Tryz.f64 = some vf64 := by kernel_rfl
theorem T64 (h : HT σ args Post vb64 vf64 []) (hl : args.length ≤ 18 := by exact Nat.le_of_ble_eq_true rfl) : T Tryz.prog 64 args σ Post := T.walk Tryz.func64 cf64 hl rfl h
@[reducible] def vb66 : VC :=
  .seq (.region [m 1 (.box 0 (t 0)), m 2 (.mov (.c (.bool false)))]) <|
  .seq (.region [m 3 (.load (some 17) (t 1)), m 4 (.call false 65 [(t 3)]), m 5 (.un .not (t 4)), m 2 (.mov (t 5))]) <|
  .ret
def vf66 : VFun := ⟨6, 1, vb66, [.tmp 2], false⟩
theorem cf66 : cFun Tryz.prog rawF false Tryz.f66 = some vf66 := by kernel_rfl
theorem T66 (h : HT σ args Post vb66 vf66 [dd]) (hl : args.length ≤ 6 := by exact Nat.le_of_ble_eq_true rfl) : T Tryz.prog 66 args σ Post := T.walk Tryz.func66 cf66 hl rfl h
@[reducible] def vb117 : VC :=
  .seq (.region [m 1 (.box 0 (t 0)), m 2 (.mov (.c (.bool false)))]) <|
  .seq (.region [m 3 (.load (some 8) (t 1)), m 4 (.call false 100 [(t 3)]), m 5 (.bin .neq .num (t 4) (.c (i 1))), m 2 (.mov (t 5))]) <|
  .ret
def vf117 : VFun := ⟨6, 1, vb117, [.tmp 2], false⟩
theorem cf117 : cFun Tryz.prog rawF false Tryz.f117 = some vf117 := by kernel_rfl
theorem T117 (h : HT σ args Post vb117 vf117 [dd]) (hl : args.length ≤ 6 := by exact Nat.le_of_ble_eq_true rfl) : T Tryz.prog 117 args σ Post := T.walk Tryz.func117 cf117 hl rfl h
@[reducible] def vb118 : VC :=
  .seq (.region [m 4 (.mov (.c (.bool false)))]) <|
  .seq (.region [m 5 (.mov (t 0)), m 6 (.mov (t 1)), m 7 (.call false 163 [(t 5), (t 6)]), m 8 (.bin .geq .num (t 7) (.c q)), m 4 (.mov (t 8))]) <|
  .ret
def vf118 : VFun := ⟨9, 0, vb118, [.tmp 4], false⟩
theorem cf118 : cFun Tryz.prog rawF false Tryz.f118 = some vf118 := by kernel_rfl
theorem T118 (h : HT σ args Post vb118 vf118 []) (hl : args.length ≤ 9 := by exact Nat.le_of_ble_eq_true rfl) : T Tryz.prog 118 args σ Post := T.walk Tryz.func118 cf118 hl rfl h
@[reducible] def vb163 : VC :=
  .seq (.region [m 4 (.mov (.c q))]) <|
  .seq (.seq (.region [m 6 (.mov (t 0)), m 7 (.len (t 6)), m 8 (.mov (.c q))]) <|
  .block 0 <| .loop <| .seq (.region [m 9 (.bin .lss .num (t 8) (t 7))]) <|
  .seq (.cond (t 9) (.skip) (.exit 0)) <|
  .seq (.block 1 <| .seq (.region [m 10 (.mov (t 8)), m 5 (.mov (t 10))]) <|
  .seq (.region [m 11 (.mov (t 1)), m 12 (.mov (t 0)), m 13 (.mov (t 5)), m 14 (.index 8 (t 12) (t 13)), m 15 (.load (some 8) (t 14)), m 16 (.callV (t 11) [(t 15)])]) <|
  .cond (t 16) (.seq (.region [m 17 (.mov (t 5)), m 4 (.mov (t 17))]) <|
  .ret) (.skip)) <|
  .region [m 18 (.bin .add .num (t 8) (.c (i 1))), m 8 (.mov (t 18))]) <|
  .seq (.region [m 4 (.mov (.c (i (-1))))]) <|
  .ret
def vf163 : VFun := ⟨19, 0, vb163, [.tmp 4], false⟩
theorem cf163 : cFun Tryz.prog rawF false Tryz.f163 = some vf163 := by kernel_rfl
theorem T163 (h : HT σ args Post vb163 vf163 []) (hl : args.length ≤ 19 := by exact Nat.le_of_ble_eq_true rfl) : T Tryz.prog 163 args σ Post := T.walk Tryz.func163 cf163 hl rfl h
@[reducible] def vb100 : VC :=
  .seq (.region [m 1 (.box 0 (t 0)), m 2 (.mov (.c q))]) <|
  .seq (.block 0 <| .seq (.region [m 4 (.indexArr 8 1 (t 1) (.c (i 1))), m 5 (.load none (t 4)), m 6 (.bin .eql .num (t 5) (.c (b 2))), m 7 (.mov (t 6)), g 8 7 true (.indexArr 8 1 (t 1) (.c q)), g 9 7 true (.load none (t 8)), g 10 7 true (.bin .leq .num (t 9) (.c (b 2))), m 11 (.pick (t 7) (t 10) (.c (.bool false))), m 3 (.mov (t 11))]) <|
  .cond (t 3) (.seq (.region [m 2 (.mov (.c (i 1)))]) <|
  .ret) (.seq (.region [m 13 (.indexArr 8 1 (t 1) (.c (i 1))), m 14 (.load none (t 13)), m 15 (.bin .eql .num (t 14) (.c (b 11))), m 16 (.mov (t 15)), g 17 16 true (.indexArr 8 1 (t 1) (.c q)), g 18 16 true (.load none (t 17)), g 19 16 true (.bin .eql .num (t 18) (.c (b 1))), m 20 (.pick (t 16) (t 19) (.c (.bool false))), m 12 (.mov (t 20))]) <|
  .cond (t 12) (.seq (.region [m 2 (.mov (.c (i 2)))]) <|
  .ret) (.seq (.region [m 22 (.indexArr 8 1 (t 1) (.c (i 1))), m 23 (.load none (t 22)), m 24 (.bin .eql .num (t 23) (.c (b 9))), m 25 (.mov (t 24)), g 26 25 true (.indexArr 8 1 (t 1) (.c q)), g 27 25 true (.load none (t 26)), g 28 25 true (.bin .eql .num (t 27) (.c (b 2))), m 29 (.pick (t 25) (t 28) (.c (.bool false))), m 30 (.mov (t 29)), g 31 30 true (.indexArr 8 1 (t 1) (.c (i 6))), g 32 30 true (.load none (t 31)), g 33 30 true (.indexArr 8 1 (t 1) (.c (i 7))), g 34 30 true (.load none (t 33)), g 35 30 true (.bin .or .num (t 32) (t 34)), g 36 30 true (.bin .eql .num (t 35) (.c o)), m 37 (.pick (t 30) (t 36) (.c (.bool false))), m 21 (.mov (t 37))]) <|
  .cond (t 21) (.seq (.region [m 2 (.mov (.c (i 3)))]) <|
  .ret) (.skip)))) <|
  .seq (.region [m 2 (.mov (.c q))]) <|
  .ret
def vf100 : VFun := ⟨38, 1, vb100, [.tmp 2], false⟩
theorem cf100 : cFun Tryz.prog rawF false Tryz.f100 = some vf100 := by kernel_rfl
theorem T100 (h : HT σ args Post vb100 vf100 [dd]) (hl : args.length ≤ 38 := by exact Nat.le_of_ble_eq_true rfl) : T Tryz.prog 100 args σ Post := T.walk Tryz.func100 cf100 hl rfl h
@[reducible] def vb55 : VC :=
  .seq (.region [m 6 (.alloc 0 [o, o, o, o, o, o, o, o]), m 7 (.mov (.c q))]) <|
  .seq (.region [m 11 (.mov (t 0)), m 12 (.mov (t 1)), m 13 (.mov (t 2)), m 14 (.call false 109 [(t 11), (t 12), (t 13)]), m 10 (.mov (t 14)), m 15 (.extract 0 (t 10)), m 16 (.extract 1 (t 10)), m 8 (.alloc 1 [o, o, o, o, o, o, o, o]), e (.store 8 (t 8) (t 15)), m 9 (.mov (t 16))]) <|
  .seq (.seq (.region [m 17 (.mov (t 9)), m 18 (.bin .neq .num (t 17) (.c q))]) <|
  .cond (t 18) (.seq (.region [m 19 (.build [o, o, o, o, o, o, o, o] []), m 20 (.mov (t 9)), e (.store 8 (t 6) (t 19)), m 7 (.mov (t 20))]) <|
  .ret) (.skip)) <|
  .seq (.region [m 21 (.mov (t 0)), m 22 (.convInt .u8 (t 21)), m 23 (.sliceArr 8 1 (t 8) (some (.c (i 2))) none), m 24 (.call false 110 [(t 22), (.c (b 2)), (t 23)]), e (.store 8 (t 6) (t 24)), m 7 (.mov (.c q))]) <|
  .ret
def vf55 : VFun := ⟨25, 2, vb55, [.cell 6 (some 8), .tmp 7], false⟩
theorem cf55 : cFun Tryz.prog rawF false Tryz.f55 = some vf55 := by kernel_rfl
theorem T55 (h : HT σ args Post vb55 vf55 [dd, dd]) (hl : args.length ≤ 25 := by exact Nat.le_of_ble_eq_true rfl) : T Tryz.prog 55 args σ Post := T.walk Tryz.func55 cf55 hl rfl h
@[reducible] def vb109 : VC :=
  .seq (.region [m 6 (.alloc 0 [o, o, o, o, o, o, o, o]), m 7 (.mov (.c q))]) <|
  .seq (.region [m 15 (.mov (t 0)), m 16 (.call false 115 [(t 15)]), m 14 (.mov (t 16)), m 17 (.extract 0 (t 14)), m 18 (.extract 1 (t 14)), m 8 (.mov (t 17)), m 9 (.mov (t 18))]) <|
  .seq (.seq (.region [m 19 (.mov (t 9)), m 20 (.un .not (t 19))]) <|
  .cond (t 20) (.seq (.region [m 21 (.build [o, o, o, o, o, o, o, o] []), e (.store 8 (t 6) (t 21)), m 7 (.mov (.c (i 1)))]) <|
  .ret) (.skip)) <|
  .seq (.region [m 23 (.mov (t 0)), m 24 (.call false 126 [(.c .nils), (t 23), (.c (i 2))]), m 22 (.mov (t 24)), m 25 (.extract 0 (t 22)), m 26 (.extract 1 (t 22)), m 10 (.mov (t 25)), m 11 (.mov (t 26))]) <|
  .seq (.region [m 28 (.mov (t 10)), m 29 (.mov (t 1)), m 30 (.mov (t 8)), m 31 (.call false 126 [(t 28), (t 29), (t 30)]), m 27 (.mov (t 31)), m 32 (.extract 0 (t 27)), m 33 (.extract 1 (t 27)), m 10 (.mov (t 32)), m 12 (.mov (t 33))]) <|
  .seq (.seq (.region [m 34 (.mov (t 12)), m 35 (.bin .eql .num (t 34) (.c q))]) <|
  .cond (t 35) (.region [m 37 (.mov (t 10)), m 38 (.mov (t 2)), m 39 (.mov (t 8)), m 40 (.bin .sub .num (.c (i 6)) (t 39)), m 41 (.call false 126 [(t 37), (t 38), (t 40)]), m 36 (.mov (t 41)), m 42 (.extract 0 (t 36)), m 43 (.extract 1 (t 36)), m 10 (.mov (t 42)), m 12 (.mov (t 43))]) (.skip)) <|
  .seq (.seq (.region [m 44 (.mov (t 12)), m 45 (.bin .neq .num (t 44) (.c q))]) <|
  .cond (t 45) (.seq (.region [m 46 (.build [o, o, o, o, o, o, o, o] []), m 47 (.mov (t 12)), e (.store 8 (t 6) (t 46)), m 7 (.mov (t 47))]) <|
  .ret) (.skip)) <|
  .seq (.region [m 13 (.alloc 1 [o, o, o, o, o, o, o, o])]) <|
  .seq (.region [m 48 (.sliceArr 8 1 (t 13) none none), m 49 (.mov (t 10)), m 50 (.copyTo 1 (t 48) (t 49))]) <|
  .seq (.region [m 51 (.load (some 8) (t 13)), e (.store 8 (t 6) (t 51)), m 7 (.mov (.c q))]) <|
  .ret
def vf109 : VFun := ⟨52, 2, vb109, [.cell 6 (some 8), .tmp 7], false⟩
theorem cf109 : cFun Tryz.prog rawF false Tryz.f109 = some vf109 := by kernel_rfl
theorem T109 (h : HT σ args Post vb109 vf109 [dd, dd]) (hl : args.length ≤ 52 := by exact Nat.le_of_ble_eq_true rfl) : T Tryz.prog 109 args σ Post := T.walk Tryz.func109 cf109 hl rfl h
@[reducible] def vb110 : VC :=
  .seq (.region [m 6 (.alloc 0 [o, o, o, o, o, o, o, o])]) <|
  .seq (.region [m 7 (.mov (t 0)), m 8 (.mov (t 1)), m 9 (.indexArr 8 1 (t 6) (.c q)), e (.store 1 (t 9) (t 7)), m 10 (.indexArr 8 1 (t 6) (.c (i 1))), e (.store 1 (t 10) (t 8))]) <|
  .seq (.region [m 11 (.sliceArr 8 1 (t 6) (some (.c (i 2))) none), m 12 (.mov (t 2)), m 13 (.copyTo 1 (t 11) (t 12))]) <|
  .seq (.region [m 14 (.load (some 8) (t 6)), e (.store 8 (t 6) (t 14))]) <|
  .ret
def vf110 : VFun := ⟨15, 1, vb110, [.cell 6 (some 8)], false⟩
theorem cf110 : cFun Tryz.prog rawF false Tryz.f110 = some vf110 := by kernel_rfl
theorem T110 (h : HT σ args Post vb110 vf110 [dd]) (hl : args.length ≤ 15 := by exact Nat.le_of_ble_eq_true rfl) : T Tryz.prog 110 args σ Post := T.walk Tryz.func110 cf110 hl rfl h
@[reducible] def vb18 : VC :=
  .seq (.region [m 0 (.mov (.c (.bool false)))]) <|
  .seq (.region [m 7 (.call false 47 [(.c (.str [97])), (.c (i 3)), (.c (b 1))]), m 1 (.alloc 0 [(.str []), q, o, o, o, o, o, o, o, o, .nils, .nils, q, o, o, o, o, o, o, o, o, o, o, o, o, o, o, o, o, .nils]), e (.store 30 (t 1) (t 7))]) <|
  .seq (.region [m 9 (.call false 31 [(.c (b 10)), (.c o), (.c o), (.c (b 1))]), m 10 (.call false 20 [(t 9), (.c (i 3))]), m 8 (.mov (t 10)), m 11 (.extract 0 (t 8)), m 12 (.extract 1 (t 8)), m 2 (.alloc 1 [o, o, o, o, o, o, o, o]), e (.store 8 (t 2) (t 11)), m 3 (.mov (t 12))]) <|
  .seq (.region [m 13 (.call false 30 [(.c (b 1)), (.c (b 1))]), m 4 (.alloc 2 [q, q, q, o, o, o, o, o, o, o, o, q, q, o, o, o, o, o, o, o, o, o, o, o, o, o, o, o, o, q, o, o, o, o, o, o, o, o, o, o, o, o, o, o, o, o, q, o, o, o, o, o, o, o, o, o, o, o, o, o, o, o, o, (.str []), o, o, o, o, o, o, o, o, q, o, o, o, o, o, o, o, o, o, o, o, o, o, o, o, o, q, q, q, o, o, o, o, o, o, o, o, o, o, o, o, o, o, o, o, q, .nils, q, q, q, o, o, o, o, o, o, o, o, o, o, o, o, o, o, o, o, .nils, .nils, .nils]), e (.store 132 (t 4) (t 13))]) <|
  .seq (.region [m 14 (.call false 48 [(.c (b 1))]), m 15 (.buildSlice 3 8 1 [o, o, o, o, o, o, o, o] [(0, (t 14))]), m 16 (.field 108 (t 4)), m 17 (.field 22 (t 16)), e (.store 1 (t 17) (t 15))]) <|
  .seq (.dreg [(m 19 (.call false 47 [(.c (.str [98])), (.c (i 4)), (.c (b 2))]), []), (m 20 (.load (some 30) (t 1)), []), (m 21 (.buildSlice 4 30 2 [(.str []), q, o, o, o, o, o, o, o, o, .nils, .nils, q, o, o, o, o, o, o, o, o, o, o, o, o, o, o, o, o, .nils] [(0, (t 19)), (1, (t 20))]), [0, 1]), (m 22 (.call false 22 [(t 21), (.c (.str [97]))]), [2, 0]), (m 18 (.mov (t 22)), [3]), (m 23 (.extract 0 (t 18)), [4]), (m 24 (.extract 1 (t 18)), [4]), (m 5 (.alloc 5 [(.str []), q, o, o, o, o, o, o, o, o, .nils, .nils, q, o, o, o, o, o, o, o, o, o, o, o, o, o, o, o, o, .nils]), []), (e (.store 30 (t 5) (t 23)), [7, 5, 3, 0, 1, 2, 3, 4, 5, 7]), (m 6 (.mov (t 24)), [6, 8, 0, 1, 2, 3, 4, 5, 6, 7, 8])] [(2, 0), (2, 1), (0, 2), (2, 3), (2, 4), (2, 5), (2, 6), (0, 7), (0, 8), (2, 9)] [0, 0, 3, 7, 15, 31, 31, 0, 191, 511]) <|
  .seq (.dreg [(m 25 (.mov (t 3)), []), (m 26 (.bin .eql .num (t 25) (.c q)), [0]), (m 27 (.mov (t 26)), [1]), (g 28 27 true (.load (some 8) (t 2)), [2]), (g 29 27 true (.call false 49 [(t 28)]), [3, 2, 2]), (g 30 27 true (.bin .eql .num (t 29) (.c (.str [114, 116, 58, 49, 58, 49, 48, 46, 48, 46, 48, 46, 49, 58, 51]))), [4, 2]), (m 31 (.pick (t 27) (t 30) (.c (.bool false))), [2, 5]), (m 32 (.mov (t 31)), [6, 4]), (g 33 32 true (.load (some 30) (t 1)), [7]), (g 34 32 true (.call false 23 [(t 33)]), [8, 7, 7]), (m 35 (.pick (t 32) (t 34) (.c (.bool false))), [7, 9]), (m 36 (.mov (t 35)), [10, 9]), (g 37 36 true (.load (some 30) (t 1)), [11]), (g 38 36 true (.call false 31 [(.c (b 10)), (.c o), (.c o), (.c (b 2))]), [11, 11]), (g 39 36 true (.load (some 132) (t 4)), [11]), (g 40 36 true (.call false 50 [(t 37), (t 38), (t 39)]), [12, 13, 14, 13, 11]), (m 41 (.pick (t 36) (t 40) (.c (.bool false))), [11, 15]), (m 42 (.mov (t 41)), [16, 15]), (g 43 42 true (.call false 47 [(.c (.str [98])), (.c (i 4)), (.c (b 2))]), [17, 17]), (g 44 42 true (.call false 31 [(.c (b 10)), (.c o), (.c o), (.c (b 2))]), [18, 17]), (g 45 42 true (.load (some 132) (t 4)), [17]), (g 46 42 true (.call false 50 [(t 43), (t 44), (t 45)]), [18, 19, 20, 19, 17]), (g 47 42 true (.un .not (t 46)), [21, 17]), (m 48 (.pick (t 42) (t 47) (.c (.bool false))), [17, 22]), (m 49 (.mov (t 48)), [23, 21]), (g 50 49 true (.mov (t 6)), [24]), (m 51 (.pick (t 49) (t 50) (.c (.bool false))), [24, 25]), (m 52 (.mov (t 51)), [26, 24]), (g 53 52 true (.field 1 (t 5)), [27]), (g 54 52 true (.load none (t 53)), [28, 27]), (g 55 52 true (.bin .eql .num (t 54) (.c (i 3))), [29, 27]), (m 56 (.pick (t 52) (t 55) (.c (.bool false))), [27, 30]), (m 57 (.mov (t 56)), [31, 27]), (g 58 57 true (.load (some 30) (t 1)), [32]), (g 59 57 true (.load (some 30) (t 1)), [32]), (g 60 57 true (.call false 51 [(t 58), (t 59)]), [33, 34, 32, 32]), (m 61 (.pick (t 57) (t 60) (.c (.bool false))), [32, 35]), (m 0 (.mov (t 61)), [36, 35, 0, 1, 2, 3, 4, 5, 6, 7, 8, 9, 10, 11, 12, 13, 14, 15, 16, 17, 18, 19, 20, 21, 22, 23, 24, 25, 26, 27, 28, 29, 30, 31, 32, 33, 34, 35, 36])] [(2, 0), (2, 1), (2, 2), (1, 3), (1, 4), (2, 5), (2, 6), (2, 7), (1, 8), (1, 9), (2, 10), (2, 11), (1, 12), (1, 13), (1, 14), (1, 15), (2, 16), (2, 17), (1, 18), (1, 19), (1, 20), (1, 21), (2, 22), (2, 23), (2, 24), (2, 25), (2, 26), (2, 27), (1, 28), (1, 29), (2, 30), (2, 31), (2, 32), (1, 33), (1, 34), (1, 35), (2, 36), (2, 37)] [0, 1, 3, 7, 15, 31, 63, 127, 255, 511, 1023, 2047, 4095, 4095, 4095, 32767, 65535, 131071, 262143, 524287, 262143, 2097151, 4194303, 8388607, 16777215, 33554431, 67108863, 134217727, 268435455, 536870911, 1073741823, 2147483647, 4294967295, 8589934591, 8589934591, 34359738367, 68719476735, 137438953471]) <|
  .ret
def vf18 : VFun := ⟨62, 6, vb18, [.tmp 0], false⟩
theorem cf18 : cFun Tryz.prog rawF false Tryz.f18 = some vf18 := by kernel_rfl
@[reducible] def vb47 : VC :=
  .seq (.region [m 6 (.alloc 0 [(.str []), q, o, o, o, o, o, o, o, o, .nils, .nils, q, o, o, o, o, o, o, o, o, o, o, o, o, o, o, o, o, .nils])]) <|
  .seq (.region [m 7 (.mov (t 0)), m 8 (.mov (t 1)), m 9 (.mov (t 1)), m 10 (.convInt .u8 (t 9)), m 11 (.build [o, o, o, o, o, o, o, o] [(0, 1, (.c o)), (1, 1, (.c o)), (2, 1, (.c o)), (3, 1, (.c (b 1))), (4, 1, (.c o)), (5, 1, (.c o)), (6, 1, (.c o)), (7, 1, (t 10))]), m 12 (.mov (t 2)), m 13 (.call false 48 [(t 12)]), m 14 (.buildSlice 1 8 1 [o, o, o, o, o, o, o, o] [(0, (t 13))]), m 15 (.mov (t 2)), m 16 (.call false 48 [(t 15)]), m 17 (.buildSlice 2 8 1 [o, o, o, o, o, o, o, o] [(0, (t 16))]), m 18 (.build [(.str []), q, o, o, o, o, o, o, o, o, .nils, .nils, q, o, o, o, o, o, o, o, o, o, o, o, o, o, o, o, o, .nils] [(0, 1, (t 7)), (1, 1, (t 8)), (2, 8, (t 11)), (10, 1, (t 14)), (11, 1, (t 17))]), e (.store 30 (t 6) (t 18))]) <|
  .ret
def vf47 : VFun := ⟨19, 3, vb47, [.cell 6 (some 30)], false⟩
theorem cf47 : cFun Tryz.prog rawF false Tryz.f47 = some vf47 := by kernel_rfl
@[reducible] def vb48 : VC :=
  .seq (.region [m 2 (.alloc 0 [o, o, o, o, o, o, o, o])]) <|
  .seq (.region [m 3 (.mov (t 0)), m 4 (.build [o, o, o, o, o, o, o, o] [(0, 1, (.c o)), (1, 1, (.c (b 2))), (2, 1, (.c o)), (3, 1, (.c (b 1))), (4, 1, (.c o)), (5, 1, (.c o)), (6, 1, (.c o)), (7, 1, (t 3))]), e (.store 8 (t 2) (t 4))]) <|
  .ret
def vf48 : VFun := ⟨5, 1, vb48, [.cell 2 (some 8)], false⟩
theorem cf48 : cFun Tryz.prog rawF false Tryz.f48 = some vf48 := by kernel_rfl
end Go.Proofs.YtjhmobdncjhcnaaGreatDoor
