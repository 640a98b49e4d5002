/- Functions of the program, in the small language. -/
import Derived.Test.YtjhmobdncjhcnaaGreatDoorF1
namespace Go.Proofs.YtjhmobdncjhcnaaGreatDoor
open Go Go.V D
variable {args : List PV} {σ : VHeap} {Post : KP}
@[reducible] def vb13 : VC :=
  .seq (.region [m 7 (.box 0 (t 0)), m 9 (.box 1 (t 2)), m 13 (.box 2 (t 6)), m 14 (.alloc 3 [q, q, q, o, o, o, o, o, o, o, o, q, q, o, o, o, o, o, o, o, o, o, o, o, o, o, o, o, o, q, o, o, o, o, o, o, o, o, o, o, o, o, o, o, o, o, q, o, o, o, o, o, o, o, o, o, o, o, o, o, o, o, o, (.str []), o, o, o, o, o, o, o, o, q, o, o, o, o, o, o, o, o, o, o, o, o, o, o, o, o, q, q, q, o, o, o, o, o, o, o, o, o, o, o, o, o, o, o, o, q, .nils, q, q, q, o, o, o, o, o, o, o, o, o, o, o, o, o, o, o, o, .nils, .nils, .nils]), m 15 (.mov (.c (.bool false)))]) <|
  .seq (.region [m 20 (.field 0 (t 9)), m 21 (.load (some 132) (t 20)), m 22 (.call false 15 [(t 21)]), m 19 (.mov (t 22)), m 23 (.extract 0 (t 19)), m 24 (.extract 1 (t 19)), m 16 (.mov (t 23)), m 17 (.mov (t 24))]) <|
  .seq (.block 0 <| .seq (.seq (.region [m 26 (.mov (t 17)), m 27 (.un .not (t 26)), m 25 (.mov (t 27))]) <|
  .cond (t 25) (.skip) (.seq (.region [m 28 (.mov (t 5)), m 29 (.field 132 (t 9)), m 30 (.load none (t 29)), m 31 (.bin .eql .num (t 28) (t 30)), m 25 (.mov (t 31))]) <|
  .cond (t 25) (.skip) (.region [m 32 (.field 0 (t 9)), m 33 (.field 108 (t 32)), m 34 (.field 4 (t 33)), m 35 (.load (some 17) (t 34)), m 36 (.load (some 17) (t 13)), m 37 (.call false 34 [(t 35), (t 36)]), m 25 (.mov (t 37))]))) <|
  .cond (t 25) (.seq (.region [m 38 (.build [q, q, q, o, o, o, o, o, o, o, o, q, q, o, o, o, o, o, o, o, o, o, o, o, o, o, o, o, o, q, o, o, o, o, o, o, o, o, o, o, o, o, o, o, o, o, q, o, o, o, o, o, o, o, o, o, o, o, o, o, o, o, o, (.str []), o, o, o, o, o, o, o, o, q, o, o, o, o, o, o, o, o, o, o, o, o, o, o, o, o, q, q, q, o, o, o, o, o, o, o, o, o, o, o, o, o, o, o, o, q, .nils, q, q, q, o, o, o, o, o, o, o, o, o, o, o, o, o, o, o, o, .nils, .nils, .nils] []), e (.store 132 (t 14) (t 38)), m 15 (.mov (.c (.bool false)))]) <|
  .ret) (.seq (.region [m 40 (.field 132 (t 9)), m 41 (.load none (t 40)), m 42 (.bin .eql .num (t 41) (.c q)), m 39 (.mov (t 42))]) <|
  .cond (t 39) (.seq (.region [m 43 (.field 0 (t 9)), m 44 (.load (some 132) (t 43)), m 45 (.call false 35 [(t 44)]), m 18 (.alloc 4 [q, q, q, o, o, o, o, o, o, o, o, q, q, o, o, o, o, o, o, o, o, o, o, o, o, o, o, o, o, q, o, o, o, o, o, o, o, o, o, o, o, o, o, o, o, o, q, o, o, o, o, o, o, o, o, o, o, o, o, o, o, o, o, (.str []), o, o, o, o, o, o, o, o, q, o, o, o, o, o, o, o, o, o, o, o, o, o, o, o, o, q, q, q, o, o, o, o, o, o, o, o, o, o, o, o, o, o, o, o, q, .nils, q, q, q, o, o, o, o, o, o, o, o, o, o, o, o, o, o, o, o, .nils, .nils, .nils]), e (.store 132 (t 18) (t 45))]) <|
  .seq (.seq (.region [m 46 (.field 108 (t 18)), m 47 (.field 3 (t 46)), m 48 (.load none (t 47)), m 49 (.bin .eql .num (t 48) (.c (i (-1))))]) <|
  .cond (t 49) (.region [m 50 (.field 108 (t 18)), m 51 (.field 3 (t 50)), e (.store 1 (t 51) (.c (i 100)))]) (.skip)) <|
  .seq (.region [m 52 (.load (some 132) (t 18)), e (.store 132 (t 14) (t 52)), m 15 (.mov (.c (.bool true)))]) <|
  .ret) (.seq (.seq (.region [m 54 (.mov (t 1)), m 55 (.un .not (t 54)), m 53 (.mov (t 55))]) <|
  .cond (t 53) (.skip) (.seq (.region [m 56 (.mov (t 3)), m 57 (.bin .eql .num (t 56) (.c q)), m 58 (.mov (t 57)), g 59 58 true (.mov (t 4)), g 60 58 true (.bin .eql .num (t 59) (.c q)), m 61 (.pick (t 58) (t 60) (.c (.bool false))), m 53 (.mov (t 61))]) <|
  .cond (t 53) (.skip) (.region [m 62 (.field 0 (t 9)), m 63 (.field 108 (t 62)), m 64 (.field 4 (t 63)), m 65 (.field 0 (t 64)), m 66 (.load none (t 65)), m 67 (.bin .eql .num (t 66) (.c q)), m 68 (.mov (t 67)), g 69 68 true (.field 133 (t 9)), g 70 68 true (.load (some 17) (t 69)), g 71 68 true (.call false 36 [(t 70)]), g 72 68 true (.un .not (t 71)), m 73 (.pick (t 68) (t 72) (.c (.bool false))), m 53 (.mov (t 73))]))) <|
  .cond (t 53) (.seq (.region [m 74 (.build [q, q, q, o, o, o, o, o, o, o, o, q, q, o, o, o, o, o, o, o, o, o, o, o, o, o, o, o, o, q, o, o, o, o, o, o, o, o, o, o, o, o, o, o, o, o, q, o, o, o, o, o, o, o, o, o, o, o, o, o, o, o, o, (.str []), o, o, o, o, o, o, o, o, q, o, o, o, o, o, o, o, o, o, o, o, o, o, o, o, o, q, q, q, o, o, o, o, o, o, o, o, o, o, o, o, o, o, o, o, q, .nils, q, q, q, o, o, o, o, o, o, o, o, o, o, o, o, o, o, o, o, .nils, .nils, .nils] []), e (.store 132 (t 14) (t 74)), m 15 (.mov (.c (.bool false)))]) <|
  .ret) (.skip)))) <|
  .seq (.region [m 75 (.load (some 17) (t 7)), m 76 (.load (some 150) (t 9)), m 77 (.call false 37 [(t 75), (t 76)]), m 78 (.extract 0 (t 77)), m 79 (.extract 1 (t 77)), e (.store 132 (t 14) (t 78)), m 15 (.mov (t 79))]) <|
  .ret
def vf13 : VFun := ⟨80, 5, vb13, [.cell 14 (some 132), .tmp 15], false⟩
theorem cf13 : cFun Tryz.prog rawF false Tryz.f13 = some vf13 := by kernel_rfl
theorem T13 (h : HT σ args Post vb13 vf13 [dd, dd, dd, dd, dd]) (hl : args.length ≤ 80 := by exact Nat.le_of_ble_eq_true rfl) : T Tryz.prog 13 args σ Post := T.walk Tryz.func13 cf13 hl rfl h
@[reducible] def vb35 : VC :=
  .seq (.region [m 1 (.box 0 (t 0)), m 2 (.alloc 1 [q, q, q, o, o, o, o, o, o, o, o, q, q, o, o, o, o, o, o, o, o, o, o, o, o, o, o, o, o, q, o, o, o, o, o, o, o, o, o, o, o, o, o, o, o, o, q, o, o, o, o, o, o, o, o, o, o, o, o, o, o, o, o, (.str []), o, o, o, o, o, o, o, o, q, o, o, o, o, o, o, o, o, o, o, o, o, o, o, o, o, q, q, q, o, o, o, o, o, o, o, o, o, o, o, o, o, o, o, o, q, .nils, q, q, q, o, o, o, o, o, o, o, o, o, o, o, o, o, o, o, o, .nils, .nils, .nils])]) <|
  .seq (.region [m 6 (.load (some 132) (t 1)), m 7 (.call false 84 [(t 6)]), m 5 (.mov (t 7)), m 8 (.extract 0 (t 5)), m 9 (.extract 1 (t 5)), m 3 (.alloc 2 [q, .nils, q, q, q, o, o, o, o, o, o, o, o, o, o, o, o, o, o, o, o, .nils, .nils, .nils, .nils, .nils]), e (.store 26 (t 3) (t 8)), m 4 (.mov (t 9))]) <|
  .seq (.region [m 10 (.field 0 (t 3)), m 11 (.load (some 24) (t 10)), m 12 (.field 108 (t 1)), e (.store 24 (t 12) (t 11))]) <|
  .seq (.region [m 13 (.load (some 132) (t 1)), e (.store 132 (t 2) (t 13))]) <|
  .ret
def vf35 : VFun := ⟨14, 3, vb35, [.cell 2 (some 132)], false⟩
theorem cf35 : cFun Tryz.prog rawF false Tryz.f35 = some vf35 := by kernel_rfl
theorem T35 (h : HT σ args Post vb35 vf35 [dd, dd, dd]) (hl : args.length ≤ 14 := by exact Nat.le_of_ble_eq_true rfl) : T Tryz.prog 35 args σ Post := T.walk Tryz.func35 cf35 hl rfl h
@[reducible] def vb37 : VC :=
  .seq (.region [m 2 (.box 0 (t 0)), m 3 (.box 1 (t 1)), m 4 (.alloc 2 [q, q, q, o, o, o, o, o, o, o, o, q, q, o, o, o, o, o, o, o, o, o, o, o, o, o, o, o, o, q, o, o, o, o, o, o, o, o, o, o, o, o, o, o, o, o, q, o, o, o, o, o, o, o, o, o, o, o, o, o, o, o, o, (.str []), o, o, o, o, o, o, o, o, q, o, o, o, o, o, o, o, o, o, o, o, o, o, o, o, o, q, q, q, o, o, o, o, o, o, o, o, o, o, o, o, o, o, o, o, q, .nils, q, q, q, o, o, o, o, o, o, o, o, o, o, o, o, o, o, o, o, .nils, .nils, .nils]), m 5 (.mov (.c (.bool false)))]) <|
  .seq (.region [m 10 (.field 0 (t 3)), m 11 (.load (some 132) (t 10)), m 12 (.call false 35 [(t 11)]), m 6 (.alloc 3 [q, q, q, o, o, o, o, o, o, o, o, q, q, o, o, o, o, o, o, o, o, o, o, o, o, o, o, o, o, q, o, o, o, o, o, o, o, o, o, o, o, o, o, o, o, o, q, o, o, o, o, o, o, o, o, o, o, o, o, o, o, o, o, (.str []), o, o, o, o, o, o, o, o, q, o, o, o, o, o, o, o, o, o, o, o, o, o, o, o, o, q, q, q, o, o, o, o, o, o, o, o, o, o, o, o, o, o, o, o, q, .nils, q, q, q, o, o, o, o, o, o, o, o, o, o, o, o, o, o, o, o, .nils, .nils, .nils]), e (.store 132 (t 6) (t 12))]) <|
  .seq (.seq (.region [m 13 (.field 108 (t 6)), m 14 (.field 4 (t 13)), m 15 (.field 0 (t 14)), m 16 (.load none (t 15)), m 17 (.bin .eql .num (t 16) (.c q))]) <|
  .cond (t 17) (.region [m 18 (.field 133 (t 3)), m 19 (.load (some 17) (t 18)), m 20 (.field 108 (t 6)), m 21 (.field 4 (t 20)), e (.store 17 (t 21) (t 19))]) (.skip)) <|
  .seq (.region [m 22 (.field 108 (t 6)), m 23 (.field 21 (t 22)), m 24 (.load none (t 23)), m 25 (.len (t 24)), m 26 (.bin .add .num (.c (i 1)) (t 25)), m 27 (.makeSlice 4 17 24 [q, o, o, o, o, o, o, o, o, o, o, o, o, o, o, o, o] (t 26) (t 26)), m 7 (.mov (t 27))]) <|
  .seq (.region [m 28 (.mov (t 7)), m 29 (.load (some 17) (t 2)), m 30 (.index 17 (t 28) (.c q)), e (.store 17 (t 30) (t 29))]) <|
  .seq (.dreg [(m 31 (.mov (t 7)), []), (m 32 (.sliceV 17 (t 31) (some (.c (i 1))) none), [0]), (m 33 (.field 108 (t 6)), []), (m 34 (.field 21 (t 33)), [2]), (m 35 (.load none (t 34)), [3]), (m 36 (.copyTo 17 (t 32) (t 35)), [1, 4])] [(2, 0), (1, 1), (1, 2), (1, 3), (1, 4), (0, 5)] [0, 1, 0, 4, 12, 31]) <|
  .seq (.region [m 37 (.mov (t 7)), m 38 (.field 108 (t 6)), m 39 (.field 21 (t 38)), e (.store 1 (t 39) (t 37))]) <|
  .seq (.seq (.region [m 41 (.load (some 132) (t 6)), m 42 (.call false 15 [(t 41)]), m 40 (.mov (t 42)), m 43 (.extract 0 (t 40)), m 44 (.extract 1 (t 40)), m 8 (.mov (t 43)), m 9 (.mov (t 44))]) <|
  .seq (.region [m 45 (.mov (t 9)), m 46 (.un .not (t 45)), m 47 (.mov (t 46)), g 48 47 false (.load (some 17) (t 2)), g 49 47 false (.call false 36 [(t 48)]), g 50 47 false (.un .not (t 49)), m 51 (.pick (t 47) (.c (.bool true)) (t 50))]) <|
  .cond (t 51) (.seq (.region [m 52 (.build [q, q, q, o, o, o, o, o, o, o, o, q, q, o, o, o, o, o, o, o, o, o, o, o, o, o, o, o, o, q, o, o, o, o, o, o, o, o, o, o, o, o, o, o, o, o, q, o, o, o, o, o, o, o, o, o, o, o, o, o, o, o, o, (.str []), o, o, o, o, o, o, o, o, q, o, o, o, o, o, o, o, o, o, o, o, o, o, o, o, o, q, q, q, o, o, o, o, o, o, o, o, o, o, o, o, o, o, o, o, q, .nils, q, q, q, o, o, o, o, o, o, o, o, o, o, o, o, o, o, o, o, .nils, .nils, .nils] []), e (.store 132 (t 4) (t 52)), m 5 (.mov (.c (.bool false)))]) <|
  .ret) (.skip)) <|
  .seq (.region [m 53 (.load (some 132) (t 6)), e (.store 132 (t 4) (t 53)), m 5 (.mov (.c (.bool true)))]) <|
  .ret
def vf37 : VFun := ⟨54, 5, vb37, [.cell 4 (some 132), .tmp 5], false⟩
theorem cf37 : cFun Tryz.prog rawF false Tryz.f37 = some vf37 := by kernel_rfl
theorem T37 (h : HT σ args Post vb37 vf37 [dd, dd, dd, dd, dd]) (hl : args.length ≤ 54 := by exact Nat.le_of_ble_eq_true rfl) : T Tryz.prog 37 args σ Post := T.walk Tryz.func37 cf37 hl rfl h
@[reducible] def vb84 : VC :=
  .seq (.region [m 1 (.box 0 (t 0)), m 2 (.alloc 1 [q, .nils, q, q, q, o, o, o, o, o, o, o, o, o, o, o, o, o, o, o, o, .nils, .nils, .nils, .nils, .nils]), m 3 (.mov (.c (.bool false)))]) <|
  .seq (.seq (.region [m 4 (.load (some 132) (t 1)), m 5 (.call false 39 [(t 4)]), m 6 (.un .not (t 5))]) <|
  .cond (t 6) (.seq (.region [m 7 (.call false 128 []), e (.store 26 (t 2) (t 7)), m 3 (.mov (.c (.bool false)))]) <|
  .ret) (.skip)) <|
  .seq (.region [m 8 (.load (some 132) (t 1)), m 9 (.call false 127 [(t 8)]), e (.store 132 (t 1) (t 9))]) <|
  .seq (.dreg [(m 10 (.field 108 (t 1)), []), (m 11 (.load (some 24) (t 10)), [0]), (m 12 (.load (some 132) (t 1)), []), (m 13 (.call false 89 [(t 12)]), [2]), (m 14 (.buildSlice 2 21 1 [q, q, q, o, o, o, o, o, o, o, o, o, o, o, o, o, o, o, o, .nils, .nils] [(0, (t 13))]), [3]), (m 15 (.build [q, .nils, q, q, q, o, o, o, o, o, o, o, o, o, o, o, o, o, o, o, o, .nils, .nils, .nils, .nils, .nils] [(0, 24, (t 11)), (24, 1, (t 14))]), [1, 4]), (e (.store 26 (t 2) (t 15)), [5, 3, 0, 1, 2, 3, 4, 5]), (m 3 (.mov (.c (.bool true))), [6, 0, 1, 2, 3, 4, 5, 6])] [(2, 0), (2, 1), (1, 2), (1, 3), (0, 4), (2, 5), (0, 6), (2, 7)] [0, 1, 0, 4, 12, 31, 63, 127]) <|
  .ret
def vf84 : VFun := ⟨16, 3, vb84, [.cell 2 (some 26), .tmp 3], false⟩
theorem cf84 : cFun Tryz.prog rawF false Tryz.f84 = some vf84 := by kernel_rfl
theorem T84 (h : HT σ args Post vb84 vf84 [dd, dd, dd]) (hl : args.length ≤ 16 := by exact Nat.le_of_ble_eq_true rfl) : T Tryz.prog 84 args σ Post := T.walk Tryz.func84 cf84 hl rfl h
@[reducible] def vb127 : VC :=
  .seq (.region [m 1 (.box 0 (t 0)), m 2 (.alloc 1 [q, q, q, o, o, o, o, o, o, o, o, q, q, o, o, o, o, o, o, o, o, o, o, o, o, o, o, o, o, q, o, o, o, o, o, o, o, o, o, o, o, o, o, o, o, o, q, o, o, o, o, o, o, o, o, o, o, o, o, o, o, o, o, (.str []), o, o, o, o, o, o, o, o, q, o, o, o, o, o, o, o, o, o, o, o, o, o, o, o, o, q, q, q, o, o, o, o, o, o, o, o, o, o, o, o, o, o, o, o, q, .nils, q, q, q, o, o, o, o, o, o, o, o, o, o, o, o, o, o, o, o, .nils, .nils, .nils])]) <|
  .seq (.region [m 6 (.field 108 (t 1)), m 7 (.load (some 24) (t 6)), m 3 (.alloc 2 [q, .nils, q, q, q, o, o, o, o, o, o, o, o, o, o, o, o, o, o, o, o, .nils, .nils, .nils]), e (.store 24 (t 3) (t 7))]) <|
  .seq (.region [m 8 (.field 1 (t 3)), m 9 (.load none (t 8)), m 10 (.call false 167 [(t 9)]), m 11 (.field 1 (t 3)), e (.store 1 (t 11) (t 10))]) <|
  .seq (.seq (.region [m 12 (.field 1 (t 3)), m 13 (.load none (t 12)), m 14 (.len (t 13)), m 15 (.mov (.c q))]) <|
  .block 0 <| .loop <| .seq (.region [m 16 (.bin .lss .num (t 15) (t 14))]) <|
  .seq (.cond (t 16) (.skip) (.exit 0)) <|
  .seq (.block 1 <| .seq (.region [m 17 (.mov (t 15)), m 4 (.mov (t 17))]) <|
  .dreg [(m 18 (.field 1 (t 3)), []), (m 19 (.load none (t 18)), [0]), (m 20 (.mov (t 4)), []), (m 21 (.field 1 (t 3)), []), (m 22 (.load none (t 21)), [3]), (m 23 (.mov (t 4)), []), (m 24 (.index 2 (t 22) (t 23)), [4, 5]), (m 25 (.field 1 (t 24)), [6]), (m 26 (.load none (t 25)), [7]), (m 27 (.call false 168 [(t 26)]), [8]), (m 28 (.index 2 (t 19) (t 20)), [1, 2, 0, 1, 2, 3, 4, 5, 6, 7, 8, 9]), (m 29 (.field 1 (t 28)), [10, 0, 1, 2, 3, 4, 5, 6, 7, 8, 9]), (e (.store 1 (t 29) (t 27)), [11, 9, 9, 0, 1, 2, 3, 4, 5, 6, 7, 8, 9])] [(1, 0), (1, 1), (2, 2), (1, 3), (1, 4), (2, 5), (1, 6), (1, 7), (1, 8), (1, 9), (1, 10), (1, 11), (0, 12)] [0, 1, 0, 0, 8, 0, 56, 120, 248, 504, 1023, 2047, 4095]) <|
  .region [m 30 (.bin .add .num (t 15) (.c (i 1))), m 15 (.mov (t 30))]) <|
  .seq (.dreg [(m 31 (.field 21 (t 3)), []), (m 32 (.load none (t 31)), [0]), (m 33 (.call false 114 [(t 32)]), [1]), (m 34 (.field 22 (t 3)), []), (m 35 (.load none (t 34)), [3]), (m 36 (.call false 113 [(t 35)]), [4, 2]), (m 37 (.field 23 (t 3)), []), (m 38 (.load none (t 37)), [6]), (m 39 (.call false 169 [(t 38)]), [7, 5]), (m 40 (.field 21 (t 3)), [0, 1, 2, 3, 4, 6, 7]), (e (.store 1 (t 40) (t 33)), [9, 2, 8, 0, 1, 2, 3, 4, 6, 7]), (m 41 (.field 22 (t 3)), [0, 1, 2, 3, 4, 5, 6, 7, 9, 10]), (e (.store 1 (t 41) (t 36)), [11, 5, 10, 0, 1, 2, 3, 4, 5, 6, 7, 9, 10]), (m 42 (.field 23 (t 3)), [0, 1, 2, 3, 4, 5, 6, 7, 8, 9, 10, 11, 12]), (e (.store 1 (t 42) (t 39)), [13, 8, 12, 0, 1, 2, 3, 4, 5, 6, 7, 8, 9, 10, 11, 12])] [(1, 0), (1, 1), (1, 2), (1, 3), (1, 4), (1, 5), (1, 6), (1, 7), (1, 8), (1, 9), (0, 10), (1, 11), (0, 12), (1, 13), (0, 14)] [0, 1, 3, 0, 8, 31, 0, 64, 255, 223, 1023, 2047, 4095, 8191, 16383]) <|
  .seq (.seq (.region [m 43 (.field 23 (t 3)), m 44 (.load none (t 43)), m 45 (.len (t 44)), m 46 (.mov (.c q))]) <|
  .block 2 <| .loop <| .seq (.region [m 47 (.bin .lss .num (t 46) (t 45))]) <|
  .seq (.cond (t 47) (.skip) (.exit 2)) <|
  .seq (.block 3 <| .seq (.region [m 48 (.mov (t 46)), m 5 (.mov (t 48))]) <|
  .dreg [(m 49 (.field 23 (t 3)), []), (m 50 (.load none (t 49)), [0]), (m 51 (.mov (t 5)), []), (m 52 (.field 23 (t 3)), []), (m 53 (.load none (t 52)), [3]), (m 54 (.mov (t 5)), []), (m 55 (.index 21 (t 53) (t 54)), [4, 5]), (m 56 (.field 20 (t 55)), [6]), (m 57 (.load none (t 56)), [7]), (m 58 (.call false 170 [(t 57)]), [8]), (m 59 (.index 21 (t 50) (t 51)), [1, 2, 0, 1, 2, 3, 4, 5, 6, 7, 8, 9]), (m 60 (.field 20 (t 59)), [10, 0, 1, 2, 3, 4, 5, 6, 7, 8, 9]), (e (.store 1 (t 60) (t 58)), [11, 9, 9, 0, 1, 2, 3, 4, 5, 6, 7, 8, 9])] [(1, 0), (1, 1), (2, 2), (1, 3), (1, 4), (2, 5), (1, 6), (1, 7), (1, 8), (1, 9), (1, 10), (1, 11), (0, 12)] [0, 1, 0, 0, 8, 0, 56, 120, 248, 504, 1023, 2047, 4095]) <|
  .region [m 61 (.bin .add .num (t 46) (.c (i 1))), m 46 (.mov (t 61))]) <|
  .seq (.region [m 62 (.load (some 24) (t 3)), m 63 (.field 108 (t 1)), e (.store 24 (t 63) (t 62))]) <|
  .seq (.region [m 64 (.load (some 132) (t 1)), e (.store 132 (t 2) (t 64))]) <|
  .ret
def vf127 : VFun := ⟨65, 3, vb127, [.cell 2 (some 132)], false⟩
theorem cf127 : cFun Tryz.prog rawF false Tryz.f127 = some vf127 := by kernel_rfl
theorem T127 (h : HT σ args Post vb127 vf127 [dd, dd, dd]) (hl : args.length ≤ 65 := by exact Nat.le_of_ble_eq_true rfl) : T Tryz.prog 127 args σ Post := T.walk Tryz.func127 cf127 hl rfl h
@[reducible] def vb16 : VC :=
  .seq (.region [m 4 (.box 0 (t 0)), m 5 (.box 1 (t 1)), m 6 (.box 2 (t 2)), m 7 (.box 3 (t 3)), m 8 (.mov (.c (.bool false)))]) <|
  .seq (.seq (.region [m 12 (.load (some 132) (t 7)), m 13 (.call false 15 [(t 12)]), m 11 (.mov (t 13)), m 14 (.extract 0 (t 11)), m 15 (.extract 1 (t 11)), m 9 (.mov (t 14)), m 10 (.mov (t 15))]) <|
  .seq (.region [m 16 (.mov (t 10)), m 17 (.un .not (t 16)), m 18 (.mov (t 17)), g 19 18 false (.field 108 (t 7)), g 20 18 false (.field 4 (t 19)), g 21 18 false (.load (some 17) (t 20)), g 22 18 false (.load (some 17) (t 5)), g 23 18 false (.call false 34 [(t 21), (t 22)]), m 24 (.pick (t 18) (.c (.bool true)) (t 23))]) <|
  .cond (t 24) (.seq (.region [m 8 (.mov (.c (.bool false)))]) <|
  .ret) (.skip)) <|
  .seq (.seq (.region [m 25 (.field 108 (t 7)), m 26 (.field 21 (t 25)), m 27 (.load none (t 26)), m 28 (.func 42 [(t 6)]), m 29 (.call false 41 [(t 27), (t 28)])]) <|
  .cond (t 29) (.seq (.region [m 8 (.mov (.c (.bool false)))]) <|
  .ret) (.skip)) <|
  .seq (.region [m 30 (.field 108 (t 7)), m 31 (.field 1 (t 30)), m 32 (.load none (t 31)), m 33 (.func 44 [(t 4)]), m 34 (.call false 43 [(t 32), (t 33)]), m 35 (.un .not (t 34)), m 8 (.mov (t 35))]) <|
  .ret
def vf16 : VFun := ⟨36, 4, vb16, [.tmp 8], false⟩
theorem cf16 : cFun Tryz.prog rawF false Tryz.f16 = some vf16 := by kernel_rfl
theorem T16 (h : HT σ args Post vb16 vf16 [dd, dd, dd, dd]) (hl : args.length ≤ 36 := by exact Nat.le_of_ble_eq_true rfl) : T Tryz.prog 16 args σ Post := T.walk Tryz.func16 cf16 hl rfl h
@[reducible] def vb42 : VC :=
  .seq (.region [m 2 (.box 0 (t 0)), m 3 (.mov (.c (.bool false)))]) <|
  .seq (.region [m 4 (.load (some 17) (t 2)), m 5 (.load (some 17) (t 1)), m 6 (.call false 34 [(t 4), (t 5)]), m 3 (.mov (t 6))]) <|
  .ret
def vf42 : VFun := ⟨7, 1, vb42, [.tmp 3], false⟩
theorem cf42 : cFun Tryz.prog rawF false Tryz.f42 = some vf42 := by kernel_rfl
theorem T42 (h : HT σ args Post vb42 vf42 [dd]) (hl : args.length ≤ 7 := by exact Nat.le_of_ble_eq_true rfl) : T Tryz.prog 42 args σ Post := T.walk Tryz.func42 cf42 hl rfl h
@[reducible] def vb44 : VC :=
  .seq (.region [m 2 (.box 0 (t 0)), m 3 (.mov (.c (.bool false)))]) <|
  .seq (.region [m 4 (.field 1 (t 2)), m 5 (.load none (t 4)), m 6 (.load none (t 1)), m 7 (.call false 45 [(t 5), (t 6)]), m 3 (.mov (t 7))]) <|
  .ret
def vf44 : VFun := ⟨8, 1, vb44, [.tmp 3], false⟩
theorem cf44 : cFun Tryz.prog rawF false Tryz.f44 = some vf44 := by kernel_rfl
theorem T44 (h : HT σ args Post vb44 vf44 [dd]) (hl : args.length ≤ 8 := by exact Nat.le_of_ble_eq_true rfl) : T Tryz.prog 44 args σ Post := T.walk Tryz.func44 cf44 hl rfl h
@[reducible] def vb45 : VC :=
  .seq (.region [m 4 (.mov (.c (.bool false)))]) <|
  .seq (.region [m 5 (.mov (t 0)), m 6 (.mov (t 1)), m 7 (.call false 93 [(t 5), (t 6)]), m 8 (.bin .geq .num (t 7) (.c q)), m 4 (.mov (t 8))]) <|
  .ret
def vf45 : VFun := ⟨9, 0, vb45, [.tmp 4], false⟩
theorem cf45 : cFun Tryz.prog rawF false Tryz.f45 = some vf45 := by kernel_rfl
theorem T45 (h : HT σ args Post vb45 vf45 []) (hl : args.length ≤ 9 := by exact Nat.le_of_ble_eq_true rfl) : T Tryz.prog 45 args σ Post := T.walk Tryz.func45 cf45 hl rfl h
@[reducible] def vb93 : VC :=
  .seq (.region [m 4 (.mov (.c q))]) <|
  .seq (.seq (.region [m 6 (.mov (t 0)), m 7 (.len (t 6)), m 8 (.mov (.c q))]) <|
  .block 0 <| .loop <| .seq (.region [m 9 (.bin .lss .num (t 8) (t 7))]) <|
  .seq (.cond (t 9) (.skip) (.exit 0)) <|
  .seq (.block 1 <| .seq (.region [m 10 (.mov (t 8)), m 5 (.mov (t 10))]) <|
  .seq (.region [m 11 (.mov (t 1)), m 12 (.mov (t 0)), m 13 (.mov (t 5)), m 14 (.index 1 (t 12) (t 13)), m 15 (.load none (t 14)), m 16 (.bin .eql .num (t 11) (t 15))]) <|
  .cond (t 16) (.seq (.region [m 17 (.mov (t 5)), m 4 (.mov (t 17))]) <|
  .ret) (.skip)) <|
  .region [m 18 (.bin .add .num (t 8) (.c (i 1))), m 8 (.mov (t 18))]) <|
  .seq (.region [m 4 (.mov (.c (i (-1))))]) <|
  .ret
def vf93 : VFun := ⟨19, 0, vb93, [.tmp 4], false⟩
theorem cf93 : cFun Tryz.prog rawF false Tryz.f93 = some vf93 := by kernel_rfl
theorem T93 (h : HT σ args Post vb93 vf93 []) (hl : args.length ≤ 19 := by exact Nat.le_of_ble_eq_true rfl) : T Tryz.prog 93 args σ Post := T.walk Tryz.func93 cf93 hl rfl h
@[reducible] def vb32 : VC :=
  .seq (.region [m 4 (.mov (.c q))]) <|
  .seq (.seq (.region [m 5 (.mov (t 1)), m 6 (.bin .lss .num (t 5) (.c (i 1))), m 7 (.mov (t 6)), g 8 7 false (.mov (t 1)), g 9 7 false (.mov (t 0)), g 10 7 false (.len (t 9)), g 11 7 false (.bin .gtr .num (t 8) (t 10)), m 12 (.pick (t 7) (.c (.bool true)) (t 11))]) <|
  .cond (t 12) (.seq (.region [m 4 (.mov (.c q))]) <|
  .ret) (.skip)) <|
  .seq (.region [m 13 (.mov (t 0)), m 14 (.mov (t 1)), m 15 (.bin .sub .num (t 14) (.c (i 1))), m 16 (.index 1 (t 13) (t 15)), m 17 (.load none (t 16)), m 4 (.mov (t 17))]) <|
  .ret
def vf32 : VFun := ⟨18, 0, vb32, [.tmp 4], false⟩
theorem cf32 : cFun Tryz.prog rawF false Tryz.f32 = some vf32 := by kernel_rfl
@[reducible] def vb14 : VC :=
  .seq (.region [m 2 (.box 0 (t 0)), m 3 (.box 1 (t 1)), m 4 (.mov (.c (.bool false)))]) <|
  .seq (.region [m 5 (.field 0 (t 2)), m 6 (.load none (t 5)), m 7 (.field 0 (t 3)), m 8 (.load none (t 7)), m 9 (.bin .eql .num (t 6) (t 8)), m 10 (.mov (t 9)), g 11 10 true (.field 1 (t 2)), g 12 10 true (.load none (t 11)), g 13 10 true (.field 1 (t 3)), g 14 10 true (.load none (t 13)), g 15 10 true (.bin .eql .num (t 12) (t 14)), m 16 (.pick (t 10) (t 15) (.c (.bool false))), m 17 (.mov (t 16)), g 18 17 true (.field 2 (t 2)), g 19 17 true (.load (some 62) (t 18)), g 20 17 true (.field 2 (t 3)), g 21 17 true (.load (some 62) (t 20)), g 22 17 true (.eqAgg [(.i .i64), (.i .u8), (.i .u8), (.i .u8), (.i .u8), (.i .u8), (.i .u8), (.i .u8), (.i .u8), (.i .i64), (.i .i64), (.i .u8), (.i .u8), (.i .u8), (.i .u8), (.i .u8), (.i .u8), (.i .u8), (.i .u8), (.i .u8), (.i .u8), (.i .u8), (.i .u8), (.i .u8), (.i .u8), (.i .u8), (.i .u8), (.i .i64), (.i .u8), (.i .u8), (.i .u8), (.i .u8), (.i .u8), (.i .u8), (.i .u8), (.i .u8), (.i .u8), (.i .u8), (.i .u8), (.i .u8), (.i .u8), (.i .u8), (.i .u8), (.i .u8), (.i .i64), (.i .u8), (.i .u8), (.i .u8), (.i .u8), (.i .u8), (.i .u8), (.i .u8), (.i .u8), (.i .u8), (.i .u8), (.i .u8), (.i .u8), (.i .u8), (.i .u8), (.i .u8), (.i .u8), .s] false (t 19) (t 21)), m 23 (.pick (t 17) (t 22) (.c (.bool false))), m 24 (.mov (t 23)), g 25 24 true (.field 64 (t 2)), g 26 24 true (.load (some 27) (t 25)), g 27 24 true (.field 64 (t 3)), g 28 24 true (.load (some 27) (t 27)), g 29 24 true (.eqAgg [(.i .u8), (.i .u8), (.i .u8), (.i .u8), (.i .u8), (.i .u8), (.i .u8), (.i .u8), (.i .i64), (.i .u8), (.i .u8), (.i .u8), (.i .u8), (.i .u8), (.i .u8), (.i .u8), (.i .u8), (.i .u8), (.i .u8), (.i .u8), (.i .u8), (.i .u8), (.i .u8), (.i .u8), (.i .u8), (.i .i64), (.i .i64)] false (t 26) (t 28)), m 30 (.pick (t 24) (t 29) (.c (.bool false))), m 31 (.mov (t 30)), g 32 31 true (.field 91 (t 2)), g 33 31 true (.load (some 17) (t 32)), g 34 31 true (.field 91 (t 3)), g 35 31 true (.load (some 17) (t 34)), g 36 31 true (.eqAgg [(.i .i64), (.i .u8), (.i .u8), (.i .u8), (.i .u8), (.i .u8), (.i .u8), (.i .u8), (.i .u8), (.i .u8), (.i .u8), (.i .u8), (.i .u8), (.i .u8), (.i .u8), (.i .u8), (.i .u8)] false (t 33) (t 35)), m 37 (.pick (t 31) (t 36) (.c (.bool false))), m 38 (.mov (t 37)), g 39 38 true (.field 108 (t 2)), g 40 38 true (.load (some 24) (t 39)), g 41 38 true (.field 108 (t 3)), g 42 38 true (.load (some 24) (t 41)), g 43 38 true (.call false 38 [(t 40), (t 42)]), m 44 (.pick (t 38) (t 43) (.c (.bool false))), m 4 (.mov (t 44))]) <|
  .ret
def vf14 : VFun := ⟨45, 2, vb14, [.tmp 4], false⟩
theorem cf14 : cFun Tryz.prog rawF false Tryz.f14 = some vf14 := by kernel_rfl
theorem T14 (h : HT σ args Post vb14 vf14 [dd, dd]) (hl : args.length ≤ 45 := by exact Nat.le_of_ble_eq_true rfl) : T Tryz.prog 14 args σ Post := T.walk Tryz.func14 cf14 hl rfl h
@[reducible] def vb38 : VC :=
  .seq (.region [m 2 (.box 0 (t 0)), m 3 (.box 1 (t 1)), m 4 (.mov (.c (.bool false)))]) <|
  .seq (.seq (.region [m 8 (.field 0 (t 2)), m 9 (.load none (t 8)), m 10 (.field 0 (t 3)), m 11 (.load none (t 10)), m 12 (.bin .neq .num (t 9) (t 11)), m 13 (.mov (t 12)), g 14 13 false (.field 2 (t 2)), g 15 13 false (.load none (t 14)), g 16 13 false (.field 2 (t 3)), g 17 13 false (.load none (t 16)), g 18 13 false (.bin .neq .num (t 15) (t 17)), m 19 (.pick (t 13) (.c (.bool true)) (t 18)), m 20 (.mov (t 19)), g 21 20 false (.field 3 (t 2)), g 22 20 false (.load none (t 21)), g 23 20 false (.field 3 (t 3)), g 24 20 false (.load none (t 23)), g 25 20 false (.bin .neq .num (t 22) (t 24)), m 26 (.pick (t 20) (.c (.bool true)) (t 25)), m 27 (.mov (t 26)), g 28 27 false (.field 4 (t 2)), g 29 27 false (.load (some 17) (t 28)), g 30 27 false (.field 4 (t 3)), g 31 27 false (.load (some 17) (t 30)), g 32 27 false (.eqAgg [(.i .i64), (.i .u8), (.i .u8), (.i .u8), (.i .u8), (.i .u8), (.i .u8), (.i .u8), (.i .u8), (.i .u8), (.i .u8), (.i .u8), (.i .u8), (.i .u8), (.i .u8), (.i .u8), (.i .u8)] true (t 29) (t 31)), m 33 (.pick (t 27) (.c (.bool true)) (t 32)), m 34 (.mov (t 33)), g 35 34 false (.field 21 (t 2)), g 36 34 false (.load none (t 35)), g 37 34 false (.len (t 36)), g 38 34 false (.field 21 (t 3)), g 39 34 false (.load none (t 38)), g 40 34 false (.len (t 39)), g 41 34 false (.bin .neq .num (t 37) (t 40)), m 42 (.pick (t 34) (.c (.bool true)) (t 41)), m 43 (.mov (t 42)), g 44 43 false (.field 23 (t 2)), g 45 43 false (.load none (t 44)), g 46 43 false (.len (t 45)), g 47 43 false (.field 23 (t 3)), g 48 43 false (.load none (t 47)), g 49 43 false (.len (t 48)), g 50 43 false (.bin .neq .num (t 46) (t 49)), m 51 (.pick (t 43) (.c (.bool true)) (t 50))]) <|
  .cond (t 51) (.seq (.region [m 4 (.mov (.c (.bool false)))]) <|
  .ret) (.skip)) <|
  .seq (.seq (.region [m 5 (.mov (.c q))]) <|
  .block 0 <| .loop <| .seq (.seq (.region [m 52 (.mov (t 5)), m 53 (.field 21 (t 2)), m 54 (.load none (t 53)), m 55 (.len (t 54)), m 56 (.bin .lss .num (t 52) (t 55))]) <|
  .cond (t 56) (.skip) (.exit 0)) <|
  .seq (.block 1 <| .seq (.dreg [(m 59 (.field 21 (t 2)), []), (m 60 (.load none (t 59)), [0]), (m 61 (.mov (t 5)), []), (m 62 (.index 17 (t 60) (t 61)), [1, 2]), (m 63 (.load (some 17) (t 62)), [3]), (m 64 (.field 21 (t 3)), []), (m 65 (.load none (t 64)), [5]), (m 66 (.mov (t 5)), []), (m 67 (.index 17 (t 65) (t 66)), [6, 7]), (m 68 (.load (some 17) (t 67)), [8]), (m 69 (.eqAgg [(.i .i64), (.i .u8), (.i .u8), (.i .u8), (.i .u8), (.i .u8), (.i .u8), (.i .u8), (.i .u8), (.i .u8), (.i .u8), (.i .u8), (.i .u8), (.i .u8), (.i .u8), (.i .u8), (.i .u8)] true (t 63) (t 68)), [4, 9])] [(1, 0), (1, 1), (2, 2), (1, 3), (1, 4), (1, 5), (1, 6), (2, 7), (1, 8), (1, 9), (2, 10)] [0, 1, 0, 7, 15, 0, 32, 0, 224, 480, 1023]) <|
  .cond (t 69) (.seq (.region [m 4 (.mov (.c (.bool false)))]) <|
  .ret) (.skip)) <|
  .region [m 57 (.mov (t 5)), m 58 (.bin .add .num (t 57) (.c (i 1))), m 5 (.mov (t 58))]) <|
  .seq (.seq (.region [m 6 (.mov (.c q))]) <|
  .block 2 <| .loop <| .seq (.seq (.region [m 70 (.mov (t 6)), m 71 (.field 23 (t 2)), m 72 (.load none (t 71)), m 73 (.len (t 72)), m 74 (.bin .lss .num (t 70) (t 73))]) <|
  .cond (t 74) (.skip) (.exit 2)) <|
  .seq (.block 3 <| .seq (.dreg [(m 77 (.field 23 (t 2)), []), (m 78 (.load none (t 77)), [0]), (m 79 (.mov (t 6)), []), (m 80 (.index 21 (t 78) (t 79)), [1, 2]), (m 81 (.load (some 21) (t 80)), [3]), (m 82 (.field 23 (t 3)), []), (m 83 (.load none (t 82)), [5]), (m 84 (.mov (t 6)), []), (m 85 (.index 21 (t 83) (t 84)), [6, 7]), (m 86 (.load (some 21) (t 85)), [8]), (m 87 (.call false 85 [(t 81), (t 86)]), [4, 9]), (m 7 (.mov (t 87)), [10, 10, 0, 1, 2, 3, 4, 5, 6, 7, 8, 9, 10])] [(1, 0), (1, 1), (2, 2), (1, 3), (1, 4), (1, 5), (1, 6), (2, 7), (1, 8), (1, 9), (1, 10), (2, 11)] [0, 1, 0, 7, 15, 0, 32, 0, 224, 480, 1023, 2047]) <|
  .seq (.region [m 88 (.mov (t 7)), m 89 (.un .not (t 88))]) <|
  .cond (t 89) (.seq (.region [m 4 (.mov (.c (.bool false)))]) <|
  .ret) (.skip)) <|
  .region [m 75 (.mov (t 6)), m 76 (.bin .add .num (t 75) (.c (i 1))), m 6 (.mov (t 76))]) <|
  .seq (.region [m 90 (.field 1 (t 2)), m 91 (.load none (t 90)), m 92 (.field 1 (t 3)), m 93 (.load none (t 92)), m 94 (.call false 86 [(t 91), (t 93)]), m 95 (.mov (t 94)), g 96 95 true (.field 22 (t 2)), g 97 95 true (.load none (t 96)), g 98 95 true (.field 22 (t 3)), g 99 95 true (.load none (t 98)), g 100 95 true (.call false 87 [(t 97), (t 99)]), m 101 (.pick (t 95) (t 100) (.c (.bool false))), m 4 (.mov (t 101))]) <|
  .ret
def vf38 : VFun := ⟨102, 2, vb38, [.tmp 4], false⟩
theorem cf38 : cFun Tryz.prog rawF false Tryz.f38 = some vf38 := by kernel_rfl
theorem T38 (h : HT σ args Post vb38 vf38 [dd, dd]) (hl : args.length ≤ 102 := by exact Nat.le_of_ble_eq_true rfl) : T Tryz.prog 38 args σ Post := T.walk Tryz.func38 cf38 hl rfl h
@[reducible] def vb85 : VC :=
  .seq (.region [m 2 (.box 0 (t 0)), m 3 (.box 1 (t 1)), m 4 (.mov (.c (.bool false)))]) <|
  .seq (.region [m 6 (.load (some 21) (t 2)), m 7 (.load (some 21) (t 3)), m 8 (.call false 136 [(t 6), (t 7)]), m 5 (.mov (t 8))]) <|
  .seq (.region [m 9 (.mov (t 5)), m 10 (.mov (t 9)), g 11 10 true (.field 0 (t 2)), g 12 10 true (.load none (t 11)), g 13 10 true (.field 0 (t 3)), g 14 10 true (.load none (t 13)), g 15 10 true (.bin .eql .bool (t 12) (t 14)), m 16 (.pick (t 10) (t 15) (.c (.bool false))), m 17 (.mov (t 16)), g 18 17 true (.field 2 (t 2)), g 19 17 true (.load none (t 18)), g 20 17 true (.field 2 (t 3)), g 21 17 true (.load none (t 20)), g 22 17 true (.bin .eql .num (t 19) (t 21)), m 23 (.pick (t 17) (t 22) (.c (.bool false))), m 4 (.mov (t 23))]) <|
  .ret
def vf85 : VFun := ⟨24, 2, vb85, [.tmp 4], false⟩
theorem cf85 : cFun Tryz.prog rawF false Tryz.f85 = some vf85 := by kernel_rfl
@[reducible] def vb86 : VC :=
  .seq (.region [m 4 (.mov (.c (.bool false)))]) <|
  .seq (.seq (.region [m 7 (.mov (t 0)), m 8 (.len (t 7)), m 9 (.mov (t 1)), m 10 (.len (t 9)), m 11 (.bin .neq .num (t 8) (t 10))]) <|
  .cond (t 11) (.seq (.region [m 4 (.mov (.c (.bool false)))]) <|
  .ret) (.skip)) <|
  .seq (.seq (.region [m 5 (.mov (.c q))]) <|
  .block 0 <| .loop <| .seq (.seq (.region [m 12 (.mov (t 5)), m 13 (.mov (t 0)), m 14 (.len (t 13)), m 15 (.bin .lss .num (t 12) (t 14))]) <|
  .cond (t 15) (.skip) (.exit 0)) <|
  .seq (.block 1 <| .seq (.seq (.dreg [(m 18 (.mov (t 0)), []), (m 19 (.mov (t 5)), []), (m 20 (.index 2 (t 18) (t 19)), [0, 1]), (m 21 (.field 0 (t 20)), [2]), (m 22 (.load none (t 21)), [3]), (m 23 (.mov (t 1)), []), (m 24 (.mov (t 5)), []), (m 25 (.index 2 (t 23) (t 24)), [5, 6]), (m 26 (.field 0 (t 25)), [7]), (m 27 (.load none (t 26)), [8]), (m 28 (.bin .neq .bool (t 22) (t 27)), [4, 9]), (m 29 (.mov (t 28)), [10]), (g 30 29 false (.mov (t 0)), [11]), (g 31 29 false (.mov (t 5)), [11]), (g 32 29 false (.index 2 (t 30) (t 31)), [12, 13, 11]), (g 33 29 false (.field 1 (t 32)), [14, 11]), (g 34 29 false (.load none (t 33)), [15, 11]), (g 35 29 false (.len (t 34)), [16, 11]), (g 36 29 false (.mov (t 1)), [11]), (g 37 29 false (.mov (t 5)), [11]), (g 38 29 false (.index 2 (t 36) (t 37)), [18, 19, 11]), (g 39 29 false (.field 1 (t 38)), [20, 11]), (g 40 29 false (.load none (t 39)), [21, 11]), (g 41 29 false (.len (t 40)), [22, 11]), (g 42 29 false (.bin .neq .num (t 35) (t 41)), [17, 23, 11]), (m 43 (.pick (t 29) (.c (.bool true)) (t 42)), [11, 24])] [(2, 0), (2, 1), (1, 2), (1, 3), (1, 4), (2, 5), (2, 6), (1, 7), (1, 8), (1, 9), (2, 10), (2, 11), (2, 12), (2, 13), (1, 14), (1, 15), (1, 16), (1, 17), (2, 18), (2, 19), (1, 20), (1, 21), (1, 22), (1, 23), (2, 24), (2, 25)] [0, 0, 3, 7, 15, 0, 0, 96, 224, 480, 1023, 2047, 4095, 4095, 16383, 32767, 65535, 131071, 4095, 4095, 790527, 1839103, 3936255, 8130559, 16777215, 33554431]) <|
  .cond (t 43) (.seq (.region [m 4 (.mov (.c (.bool false)))]) <|
  .ret) (.skip)) <|
  .seq (.region [m 6 (.mov (.c q))]) <|
  .block 2 <| .loop <| .seq (.seq (.region [m 44 (.mov (t 6)), m 45 (.mov (t 0)), m 46 (.mov (t 5)), m 47 (.index 2 (t 45) (t 46)), m 48 (.field 1 (t 47)), m 49 (.load none (t 48)), m 50 (.len (t 49)), m 51 (.bin .lss .num (t 44) (t 50))]) <|
  .cond (t 51) (.skip) (.exit 2)) <|
  .seq (.block 3 <| .seq (.dreg [(m 54 (.mov (t 0)), []), (m 55 (.mov (t 5)), []), (m 56 (.index 2 (t 54) (t 55)), [0, 1]), (m 57 (.field 1 (t 56)), [2]), (m 58 (.load none (t 57)), [3]), (m 59 (.mov (t 6)), []), (m 60 (.index 1 (t 58) (t 59)), [4, 5]), (m 61 (.load none (t 60)), [6]), (m 62 (.mov (t 1)), []), (m 63 (.mov (t 5)), []), (m 64 (.index 2 (t 62) (t 63)), [8, 9]), (m 65 (.field 1 (t 64)), [10]), (m 66 (.load none (t 65)), [11]), (m 67 (.mov (t 6)), []), (m 68 (.index 1 (t 66) (t 67)), [12, 13]), (m 69 (.load none (t 68)), [14]), (m 70 (.bin .neq .num (t 61) (t 69)), [7, 15])] [(2, 0), (2, 1), (1, 2), (1, 3), (1, 4), (2, 5), (1, 6), (1, 7), (2, 8), (2, 9), (1, 10), (1, 11), (1, 12), (2, 13), (1, 14), (1, 15), (2, 16)] [0, 0, 3, 7, 15, 0, 63, 127, 0, 0, 768, 1792, 3840, 0, 16128, 32512, 65535]) <|
  .cond (t 70) (.seq (.region [m 4 (.mov (.c (.bool false)))]) <|
  .ret) (.skip)) <|
  .region [m 52 (.mov (t 6)), m 53 (.bin .add .num (t 52) (.c (i 1))), m 6 (.mov (t 53))]) <|
  .region [m 16 (.mov (t 5)), m 17 (.bin .add .num (t 16) (.c (i 1))), m 5 (.mov (t 17))]) <|
  .seq (.region [m 4 (.mov (.c (.bool true)))]) <|
  .ret
def vf86 : VFun := ⟨71, 0, vb86, [.tmp 4], false⟩
theorem cf86 : cFun Tryz.prog rawF false Tryz.f86 = some vf86 := by kernel_rfl
theorem T86 (h : HT σ args Post vb86 vf86 []) (hl : args.length ≤ 71 := by exact Nat.le_of_ble_eq_true rfl) : T Tryz.prog 86 args σ Post := T.walk Tryz.func86 cf86 hl rfl h
@[reducible] def vb87 : VC :=
  .seq (.region [m 4 (.mov (.c (.bool false)))]) <|
  .seq (.seq (.region [m 6 (.mov (t 0)), m 7 (.len (t 6)), m 8 (.mov (t 1)), m 9 (.len (t 8)), m 10 (.bin .neq .num (t 7) (t 9))]) <|
  .cond (t 10) (.seq (.region [m 4 (.mov (.c (.bool false)))]) <|
  .ret) (.skip)) <|
  .seq (.seq (.region [m 5 (.mov (.c q))]) <|
  .block 0 <| .loop <| .seq (.seq (.region [m 11 (.mov (t 5)), m 12 (.mov (t 0)), m 13 (.len (t 12)), m 14 (.bin .lss .num (t 11) (t 13))]) <|
  .cond (t 14) (.skip) (.exit 0)) <|
  .seq (.block 1 <| .seq (.dreg [(m 17 (.mov (t 0)), []), (m 18 (.mov (t 5)), []), (m 19 (.index 8 (t 17) (t 18)), [0, 1]), (m 20 (.load (some 8) (t 19)), [2]), (m 21 (.mov (t 1)), []), (m 22 (.mov (t 5)), []), (m 23 (.index 8 (t 21) (t 22)), [4, 5]), (m 24 (.load (some 8) (t 23)), [6]), (m 25 (.eqAgg [(.i .u8), (.i .u8), (.i .u8), (.i .u8), (.i .u8), (.i .u8), (.i .u8), (.i .u8)] true (t 20) (t 24)), [3, 7])] [(2, 0), (2, 1), (1, 2), (1, 3), (2, 4), (2, 5), (1, 6), (1, 7), (2, 8)] [0, 0, 3, 7, 0, 0, 48, 112, 255]) <|
  .cond (t 25) (.seq (.region [m 4 (.mov (.c (.bool false)))]) <|
  .ret) (.skip)) <|
  .region [m 15 (.mov (t 5)), m 16 (.bin .add .num (t 15) (.c (i 1))), m 5 (.mov (t 16))]) <|
  .seq (.region [m 4 (.mov (.c (.bool true)))]) <|
  .ret
def vf87 : VFun := ⟨26, 0, vb87, [.tmp 4], false⟩
theorem cf87 : cFun Tryz.prog rawF false Tryz.f87 = some vf87 := by kernel_rfl
theorem T87 (h : HT σ args Post vb87 vf87 []) (hl : args.length ≤ 26 := by exact Nat.le_of_ble_eq_true rfl) : T Tryz.prog 87 args σ Post := T.walk Tryz.func87 cf87 hl rfl h
@[reducible] def vb136 : VC :=
  .seq (.region [m 2 (.box 0 (t 0)), m 3 (.box 1 (t 1)), m 4 (.mov (.c (.bool false)))]) <|
  .seq (.region [m 5 (.field 1 (t 2)), m 6 (.load none (t 5)), m 7 (.field 1 (t 3)), m 8 (.load none (t 7)), m 9 (.bin .eql .num (t 6) (t 8)), m 10 (.mov (t 9)), g 11 10 true (.field 3 (t 2)), g 12 10 true (.load (some 17) (t 11)), g 13 10 true (.field 3 (t 3)), g 14 10 true (.load (some 17) (t 13)), g 15 10 true (.eqAgg [(.i .i64), (.i .u8), (.i .u8), (.i .u8), (.i .u8), (.i .u8), (.i .u8), (.i .u8), (.i .u8), (.i .u8), (.i .u8), (.i .u8), (.i .u8), (.i .u8), (.i .u8), (.i .u8), (.i .u8)] false (t 12) (t 14)), m 16 (.pick (t 10) (t 15) (.c (.bool false))), m 17 (.mov (t 16)), g 18 17 true (.field 20 (t 2)), g 19 17 true (.load none (t 18)), g 20 17 true (.b2s (t 19)), g 21 17 true (.field 20 (t 3)), g 22 17 true (.load none (t 21)), g 23 17 true (.b2s (t 22)), g 24 17 true (.bin .eql .num (t 20) (t 23)), m 25 (.pick (t 17) (t 24) (.c (.bool false))), m 4 (.mov (t 25))]) <|
  .ret
def vf136 : VFun := ⟨26, 2, vb136, [.tmp 4], false⟩
theorem cf136 : cFun Tryz.prog rawF false Tryz.f136 = some vf136 := by kernel_rfl
@[reducible] def vb17 : VC :=
  .seq (.region [m 2 (.box 0 (t 0)), m 3 (.box 1 (t 1)), m 4 (.mov (.c (.bool false)))]) <|
  .seq (.region [m 6 (.field 0 (t 2)), m 7 (.load none (t 6)), m 8 (.field 0 (t 3)), m 9 (.load none (t 8)), m 10 (.bin .eql .num (t 7) (t 9)), m 11 (.mov (t 10)), g 12 11 true (.field 1 (t 2)), g 13 11 true (.load none (t 12)), g 14 11 true (.field 1 (t 3)), g 15 11 true (.load none (t 14)), g 16 11 true (.bin .eql .num (t 13) (t 15)), m 17 (.pick (t 11) (t 16) (.c (.bool false))), m 18 (.mov (t 17)), g 19 18 true (.field 2 (t 2)), g 20 18 true (.load (some 62) (t 19)), g 21 18 true (.field 2 (t 3)), g 22 18 true (.load (some 62) (t 21)), g 23 18 true (.eqAgg [(.i .i64), (.i .u8), (.i .u8), (.i .u8), (.i .u8), (.i .u8), (.i .u8), (.i .u8), (.i .u8), (.i .i64), (.i .i64), (.i .u8), (.i .u8), (.i .u8), (.i .u8), (.i .u8), (.i .u8), (.i .u8), (.i .u8), (.i .u8), (.i .u8), (.i .u8), (.i .u8), (.i .u8), (.i .u8), (.i .u8), (.i .u8), (.i .i64), (.i .u8), (.i .u8), (.i .u8), (.i .u8), (.i .u8), (.i .u8), (.i .u8), (.i .u8), (.i .u8), (.i .u8), (.i .u8), (.i .u8), (.i .u8), (.i .u8), (.i .u8), (.i .u8), (.i .i64), (.i .u8), (.i .u8), (.i .u8), (.i .u8), (.i .u8), (.i .u8), (.i .u8), (.i .u8), (.i .u8), (.i .u8), (.i .u8), (.i .u8), (.i .u8), (.i .u8), (.i .u8), (.i .u8), .s] false (t 20) (t 22)), m 24 (.pick (t 18) (t 23) (.c (.bool false))), m 25 (.mov (t 24)), g 26 25 true (.field 64 (t 2)), g 27 25 true (.load (some 27) (t 26)), g 28 25 true (.field 64 (t 3)), g 29 25 true (.load (some 27) (t 28)), g 30 25 true (.eqAgg [(.i .u8), (.i .u8), (.i .u8), (.i .u8), (.i .u8), (.i .u8), (.i .u8), (.i .u8), (.i .i64), (.i .u8), (.i .u8), (.i .u8), (.i .u8), (.i .u8), (.i .u8), (.i .u8), (.i .u8), (.i .u8), (.i .u8), (.i .u8), (.i .u8), (.i .u8), (.i .u8), (.i .u8), (.i .u8), (.i .i64), (.i .i64)] false (t 27) (t 29)), m 31 (.pick (t 25) (t 30) (.c (.bool false))), m 32 (.mov (t 31)), g 33 32 true (.field 91 (t 2)), g 34 32 true (.load (some 17) (t 33)), g 35 32 true (.field 91 (t 3)), g 36 32 true (.load (some 17) (t 35)), g 37 32 true (.eqAgg [(.i .i64), (.i .u8), (.i .u8), (.i .u8), (.i .u8), (.i .u8), (.i .u8), (.i .u8), (.i .u8), (.i .u8), (.i .u8), (.i .u8), (.i .u8), (.i .u8), (.i .u8), (.i .u8), (.i .u8)] false (t 34) (t 36)), m 38 (.pick (t 32) (t 37) (.c (.bool false))), m 5 (.mov (t 38))]) <|
  .seq (.region [m 39 (.mov (t 5)), m 40 (.mov (t 39)), g 41 40 true (.field 108 (t 2)), g 42 40 true (.load (some 24) (t 41)), g 43 40 true (.field 108 (t 3)), g 44 40 true (.load (some 24) (t 43)), g 45 40 true (.call false 46 [(t 42), (t 44)]), m 46 (.pick (t 40) (t 45) (.c (.bool false))), m 4 (.mov (t 46))]) <|
  .ret
def vf17 : VFun := ⟨47, 2, vb17, [.tmp 4], false⟩
theorem cf17 : cFun Tryz.prog rawF false Tryz.f17 = some vf17 := by kernel_rfl
theorem T17 (h : HT σ args Post vb17 vf17 [dd, dd]) (hl : args.length ≤ 47 := by exact Nat.le_of_ble_eq_true rfl) : T Tryz.prog 17 args σ Post := T.walk Tryz.func17 cf17 hl rfl h
@[reducible] def vb46 : VC :=
  .seq (.region [m 2 (.box 0 (t 0)), m 3 (.box 1 (t 1)), m 4 (.mov (.c (.bool false)))]) <|
  .seq (.block 0 <| .seq (.seq (.region [m 6 (.field 0 (t 2)), m 7 (.load none (t 6)), m 8 (.field 0 (t 3)), m 9 (.load none (t 8)), m 10 (.bin .neq .num (t 7) (t 9)), m 5 (.mov (t 10))]) <|
  .cond (t 5) (.skip) (.seq (.region [m 11 (.field 2 (t 2)), m 12 (.load none (t 11)), m 13 (.field 2 (t 3)), m 14 (.load none (t 13)), m 15 (.bin .neq .num (t 12) (t 14)), m 5 (.mov (t 15))]) <|
  .cond (t 5) (.skip) (.seq (.region [m 16 (.field 3 (t 2)), m 17 (.load none (t 16)), m 18 (.field 3 (t 3)), m 19 (.load none (t 18)), m 20 (.bin .neq .num (t 17) (t 19)), m 5 (.mov (t 20))]) <|
  .cond (t 5) (.skip) (.region [m 21 (.field 4 (t 2)), m 22 (.load (some 17) (t 21)), m 23 (.field 4 (t 3)), m 24 (.load (some 17) (t 23)), m 25 (.eqAgg [(.i .i64), (.i .u8), (.i .u8), (.i .u8), (.i .u8), (.i .u8), (.i .u8), (.i .u8), (.i .u8), (.i .u8), (.i .u8), (.i .u8), (.i .u8), (.i .u8), (.i .u8), (.i .u8), (.i .u8)] true (t 22) (t 24)), m 5 (.mov (t 25))])))) <|
  .cond (t 5) (.seq (.region [m 4 (.mov (.c (.bool false)))]) <|
  .ret) (.seq (.seq (.region [m 27 (.field 1 (t 2)), m 28 (.load none (t 27)), m 29 (.field 1 (t 3)), m 30 (.load none (t 29)), m 31 (.call false 94 [(t 28), (t 30), (.c (.fn 95 []))]), m 32 (.un .not (t 31)), m 26 (.mov (t 32))]) <|
  .cond (t 26) (.skip) (.region [m 33 (.field 21 (t 2)), m 34 (.load none (t 33)), m 35 (.field 21 (t 3)), m 36 (.load none (t 35)), m 37 (.call false 96 [(t 34), (t 36)]), m 38 (.un .not (t 37)), m 26 (.mov (t 38))])) <|
  .cond (t 26) (.seq (.region [m 4 (.mov (.c (.bool false)))]) <|
  .ret) (.skip))) <|
  .seq (.region [m 39 (.field 22 (t 2)), m 40 (.load none (t 39)), m 41 (.field 22 (t 3)), m 42 (.load none (t 41)), m 43 (.call false 97 [(t 40), (t 42)]), m 44 (.mov (t 43)), g 45 44 true (.field 23 (t 2)), g 46 44 true (.load none (t 45)), g 47 44 true (.field 23 (t 3)), g 48 44 true (.load none (t 47)), g 49 44 true (.call false 98 [(t 46), (t 48), (.c (.fn 99 []))]), m 50 (.pick (t 44) (t 49) (.c (.bool false))), m 4 (.mov (t 50))]) <|
  .ret
def vf46 : VFun := ⟨51, 2, vb46, [.tmp 4], false⟩
theorem cf46 : cFun Tryz.prog rawF false Tryz.f46 = some vf46 := by kernel_rfl
theorem T46 (h : HT σ args Post vb46 vf46 [dd, dd]) (hl : args.length ≤ 51 := by exact Nat.le_of_ble_eq_true rfl) : T Tryz.prog 46 args σ Post := T.walk Tryz.func46 cf46 hl rfl h
@[reducible] def vb94 : VC :=
  .seq (.region [m 6 (.mov (.c (.bool false)))]) <|
  .seq (.seq (.region [m 10 (.mov (t 0)), m 11 (.len (t 10)), m 12 (.mov (t 1)), m 13 (.len (t 12)), m 14 (.bin .neq .num (t 11) (t 13))]) <|
  .cond (t 14) (.seq (.region [m 6 (.mov (.c (.bool false)))]) <|
  .ret) (.skip)) <|
  .seq (.seq (.region [m 15 (.mov (t 0)), m 16 (.len (t 15)), m 17 (.mov (.c q))]) <|
  .block 0 <| .loop <| .seq (.region [m 18 (.bin .lss .num (t 17) (t 16))]) <|
  .seq (.cond (t 18) (.skip) (.exit 0)) <|
  .seq (.block 1 <| .seq (.region [m 19 (.mov (t 17)), m 20 (.index 2 (t 15) (t 17)), m 21 (.load (some 2) (t 20)), m 8 (.alloc 0 [(.bool false), .nils]), m 7 (.mov (t 19)), e (.store 2 (t 8) (t 21))]) <|
  .seq (.region [m 22 (.mov (t 1)), m 23 (.mov (t 7)), m 24 (.index 2 (t 22) (t 23)), m 25 (.load (some 2) (t 24)), m 9 (.alloc 1 [(.bool false), .nils]), e (.store 2 (t 9) (t 25))]) <|
  .seq (.region [m 26 (.mov (t 2)), m 27 (.load (some 2) (t 8)), m 28 (.load (some 2) (t 9)), m 29 (.callV (t 26) [(t 27), (t 28)]), m 30 (.un .not (t 29))]) <|
  .cond (t 30) (.seq (.region [m 6 (.mov (.c (.bool false)))]) <|
  .ret) (.skip)) <|
  .region [m 31 (.bin .add .num (t 17) (.c (i 1))), m 17 (.mov (t 31))]) <|
  .seq (.region [m 6 (.mov (.c (.bool true)))]) <|
  .ret
def vf94 : VFun := ⟨32, 2, vb94, [.tmp 6], false⟩
theorem cf94 : cFun Tryz.prog rawF false Tryz.f94 = some vf94 := by kernel_rfl
theorem T94 (h : HT σ args Post vb94 vf94 [dd, dd]) (hl : args.length ≤ 32 := by exact Nat.le_of_ble_eq_true rfl) : T Tryz.prog 94 args σ Post := T.walk Tryz.func94 cf94 hl rfl h
@[reducible] def vb95 : VC :=
  .seq (.region [m 2 (.box 0 (t 0)), m 3 (.box 1 (t 1)), m 4 (.mov (.c (.bool false)))]) <|
  .seq (.region [m 5 (.field 0 (t 2)), m 6 (.load none (t 5)), m 7 (.field 0 (t 3)), m 8 (.load none (t 7)), m 9 (.bin .eql .bool (t 6) (t 8)), m 10 (.mov (t 9)), g 11 10 true (.field 1 (t 2)), g 12 10 true (.load none (t 11)), g 13 10 true (.field 1 (t 3)), g 14 10 true (.load none (t 13)), g 15 10 true (.call false 146 [(t 12), (t 14)]), m 16 (.pick (t 10) (t 15) (.c (.bool false))), m 4 (.mov (t 16))]) <|
  .ret
def vf95 : VFun := ⟨17, 2, vb95, [.tmp 4], false⟩
theorem cf95 : cFun Tryz.prog rawF false Tryz.f95 = some vf95 := by kernel_rfl
theorem T95 (h : HT σ args Post vb95 vf95 [dd, dd]) (hl : args.length ≤ 17 := by exact Nat.le_of_ble_eq_true rfl) : T Tryz.prog 95 args σ Post := T.walk Tryz.func95 cf95 hl rfl h
@[reducible] def vb96 : VC :=
  .seq (.region [m 4 (.mov (.c (.bool false)))]) <|
  .seq (.seq (.region [m 6 (.mov (t 0)), m 7 (.len (t 6)), m 8 (.mov (t 1)), m 9 (.len (t 8)), m 10 (.bin .neq .num (t 7) (t 9))]) <|
  .cond (t 10) (.seq (.region [m 4 (.mov (.c (.bool false)))]) <|
  .ret) (.skip)) <|
  .seq (.seq (.region [m 11 (.mov (t 0)), m 12 (.len (t 11)), m 13 (.mov (.c q))]) <|
  .block 0 <| .loop <| .seq (.region [m 14 (.bin .lss .num (t 13) (t 12))]) <|
  .seq (.cond (t 14) (.skip) (.exit 0)) <|
  .seq (.block 1 <| .seq (.region [m 15 (.mov (t 13)), m 5 (.mov (t 15))]) <|
  .seq (.dreg [(m 16 (.mov (t 0)), []), (m 17 (.mov (t 5)), []), (m 18 (.index 17 (t 16) (t 17)), [0, 1]), (m 19 (.load (some 17) (t 18)), [2]), (m 20 (.mov (t 1)), []), (m 21 (.mov (t 5)), []), (m 22 (.index 17 (t 20) (t 21)), [4, 5]), (m 23 (.load (some 17) (t 22)), [6]), (m 24 (.eqAgg [(.i .i64), (.i .u8), (.i .u8), (.i .u8), (.i .u8), (.i .u8), (.i .u8), (.i .u8), (.i .u8), (.i .u8), (.i .u8), (.i .u8), (.i .u8), (.i .u8), (.i .u8), (.i .u8), (.i .u8)] true (t 19) (t 23)), [3, 7])] [(2, 0), (2, 1), (1, 2), (1, 3), (2, 4), (2, 5), (1, 6), (1, 7), (2, 8)] [0, 0, 3, 7, 0, 0, 48, 112, 255]) <|
  .cond (t 24) (.seq (.region [m 4 (.mov (.c (.bool false)))]) <|
  .ret) (.skip)) <|
  .region [m 25 (.bin .add .num (t 13) (.c (i 1))), m 13 (.mov (t 25))]) <|
  .seq (.region [m 4 (.mov (.c (.bool true)))]) <|
  .ret
def vf96 : VFun := ⟨26, 0, vb96, [.tmp 4], false⟩
theorem cf96 : cFun Tryz.prog rawF false Tryz.f96 = some vf96 := by kernel_rfl
theorem T96 (h : HT σ args Post vb96 vf96 []) (hl : args.length ≤ 26 := by exact Nat.le_of_ble_eq_true rfl) : T Tryz.prog 96 args σ Post := T.walk Tryz.func96 cf96 hl rfl h
@[reducible] def vb97 : VC :=
  .seq (.region [m 4 (.mov (.c (.bool false)))]) <|
  .seq (.seq (.region [m 6 (.mov (t 0)), m 7 (.len (t 6)), m 8 (.mov (t 1)), m 9 (.len (t 8)), m 10 (.bin .neq .num (t 7) (t 9))]) <|
  .cond (t 10) (.seq (.region [m 4 (.mov (.c (.bool false)))]) <|
  .ret) (.skip)) <|
  .seq (.seq (.region [m 11 (.mov (t 0)), m 12 (.len (t 11)), m 13 (.mov (.c q))]) <|
  .block 0 <| .loop <| .seq (.region [m 14 (.bin .lss .num (t 13) (t 12))]) <|
  .seq (.cond (t 14) (.skip) (.exit 0)) <|
  .seq (.block 1 <| .seq (.region [m 15 (.mov (t 13)), m 5 (.mov (t 15))]) <|
  .seq (.dreg [(m 16 (.mov (t 0)), []), (m 17 (.mov (t 5)), []), (m 18 (.index 8 (t 16) (t 17)), [0, 1]), (m 19 (.load (some 8) (t 18)), [2]), (m 20 (.mov (t 1)), []), (m 21 (.mov (t 5)), []), (m 22 (.index 8 (t 20) (t 21)), [4, 5]), (m 23 (.load (some 8) (t 22)), [6]), (m 24 (.eqAgg [(.i .u8), (.i .u8), (.i .u8), (.i .u8), (.i .u8), (.i .u8), (.i .u8), (.i .u8)] true (t 19) (t 23)), [3, 7])] [(2, 0), (2, 1), (1, 2), (1, 3), (2, 4), (2, 5), (1, 6), (1, 7), (2, 8)] [0, 0, 3, 7, 0, 0, 48, 112, 255]) <|
  .cond (t 24) (.seq (.region [m 4 (.mov (.c (.bool false)))]) <|
  .ret) (.skip)) <|
  .region [m 25 (.bin .add .num (t 13) (.c (i 1))), m 13 (.mov (t 25))]) <|
  .seq (.region [m 4 (.mov (.c (.bool true)))]) <|
  .ret
def vf97 : VFun := ⟨26, 0, vb97, [.tmp 4], false⟩
theorem cf97 : cFun Tryz.prog rawF false Tryz.f97 = some vf97 := by kernel_rfl
theorem T97 (h : HT σ args Post vb97 vf97 []) (hl : args.length ≤ 26 := by exact Nat.le_of_ble_eq_true rfl) : T Tryz.prog 97 args σ Post := T.walk Tryz.func97 cf97 hl rfl h
@[reducible] def vb98 : VC :=
  .seq (.region [m 6 (.mov (.c (.bool false)))]) <|
  .seq (.seq (.region [m 10 (.mov (t 0)), m 11 (.len (t 10)), m 12 (.mov (t 1)), m 13 (.len (t 12)), m 14 (.bin .neq .num (t 11) (t 13))]) <|
  .cond (t 14) (.seq (.region [m 6 (.mov (.c (.bool false)))]) <|
  .ret) (.skip)) <|
  .seq (.seq (.region [m 15 (.mov (t 0)), m 16 (.len (t 15)), m 17 (.mov (.c q))]) <|
  .block 0 <| .loop <| .seq (.region [m 18 (.bin .lss .num (t 17) (t 16))]) <|
  .seq (.cond (t 18) (.skip) (.exit 0)) <|
  .seq (.block 1 <| .seq (.region [m 19 (.mov (t 17)), m 20 (.index 21 (t 15) (t 17)), m 21 (.load (some 21) (t 20)), m 8 (.alloc 0 [(.bool false), q, q, q, o, o, o, o, o, o, o, o, o, o, o, o, o, o, o, o, .nils]), m 7 (.mov (t 19)), e (.store 21 (t 8) (t 21))]) <|
  .seq (.region [m 22 (.mov (t 1)), m 23 (.mov (t 7)), m 24 (.index 21 (t 22) (t 23)), m 25 (.load (some 21) (t 24)), m 9 (.alloc 1 [(.bool false), q, q, q, o, o, o, o, o, o, o, o, o, o, o, o, o, o, o, o, .nils]), e (.store 21 (t 9) (t 25))]) <|
  .seq (.region [m 26 (.mov (t 2)), m 27 (.load (some 21) (t 8)), m 28 (.load (some 21) (t 9)), m 29 (.callV (t 26) [(t 27), (t 28)]), m 30 (.un .not (t 29))]) <|
  .cond (t 30) (.seq (.region [m 6 (.mov (.c (.bool false)))]) <|
  .ret) (.skip)) <|
  .region [m 31 (.bin .add .num (t 17) (.c (i 1))), m 17 (.mov (t 31))]) <|
  .seq (.region [m 6 (.mov (.c (.bool true)))]) <|
  .ret
def vf98 : VFun := ⟨32, 2, vb98, [.tmp 6], false⟩
theorem cf98 : cFun Tryz.prog rawF false Tryz.f98 = some vf98 := by kernel_rfl
theorem T98 (h : HT σ args Post vb98 vf98 [dd, dd]) (hl : args.length ≤ 32 := by exact Nat.le_of_ble_eq_true rfl) : T Tryz.prog 98 args σ Post := T.walk Tryz.func98 cf98 hl rfl h
@[reducible] def vb99 : VC :=
  .seq (.region [m 2 (.box 0 (t 0)), m 3 (.box 1 (t 1)), m 4 (.mov (.c (.bool false)))]) <|
  .seq (.region [m 5 (.load (some 21) (t 2)), m 6 (.load (some 21) (t 3)), m 7 (.call false 147 [(t 5), (t 6)]), m 8 (.mov (t 7)), g 9 8 true (.field 0 (t 2)), g 10 8 true (.load none (t 9)), g 11 8 true (.field 0 (t 3)), g 12 8 true (.load none (t 11)), g 13 8 true (.bin .eql .bool (t 10) (t 12)), m 14 (.pick (t 8) (t 13) (.c (.bool false))), m 15 (.mov (t 14)), g 16 15 true (.field 2 (t 2)), g 17 15 true (.load none (t 16)), g 18 15 true (.field 2 (t 3)), g 19 15 true (.load none (t 18)), g 20 15 true (.bin .eql .num (t 17) (t 19)), m 21 (.pick (t 15) (t 20) (.c (.bool false))), m 4 (.mov (t 21))]) <|
  .ret
def vf99 : VFun := ⟨22, 2, vb99, [.tmp 4], false⟩
theorem cf99 : cFun Tryz.prog rawF false Tryz.f99 = some vf99 := by kernel_rfl
theorem T99 (h : HT σ args Post vb99 vf99 [dd, dd]) (hl : args.length ≤ 22 := by exact Nat.le_of_ble_eq_true rfl) : T Tryz.prog 99 args σ Post := T.walk Tryz.func99 cf99 hl rfl h
@[reducible] def vb146 : VC :=
  .seq (.region [m 4 (.mov (.c (.bool false)))]) <|
  .seq (.seq (.region [m 6 (.mov (t 0)), m 7 (.len (t 6)), m 8 (.mov (t 1)), m 9 (.len (t 8)), m 10 (.bin .neq .num (t 7) (t 9))]) <|
  .cond (t 10) (.seq (.region [m 4 (.mov (.c (.bool false)))]) <|
  .ret) (.skip)) <|
  .seq (.seq (.region [m 11 (.mov (t 0)), m 12 (.len (t 11)), m 13 (.mov (.c q))]) <|
  .block 0 <| .loop <| .seq (.region [m 14 (.bin .lss .num (t 13) (t 12))]) <|
  .seq (.cond (t 14) (.skip) (.exit 0)) <|
  .seq (.block 1 <| .seq (.region [m 15 (.mov (t 13)), m 5 (.mov (t 15))]) <|
  .seq (.dreg [(m 16 (.mov (t 0)), []), (m 17 (.mov (t 5)), []), (m 18 (.index 1 (t 16) (t 17)), [0, 1]), (m 19 (.load none (t 18)), [2]), (m 20 (.mov (t 1)), []), (m 21 (.mov (t 5)), []), (m 22 (.index 1 (t 20) (t 21)), [4, 5]), (m 23 (.load none (t 22)), [6]), (m 24 (.bin .neq .num (t 19) (t 23)), [3, 7])] [(2, 0), (2, 1), (1, 2), (1, 3), (2, 4), (2, 5), (1, 6), (1, 7), (2, 8)] [0, 0, 3, 7, 0, 0, 48, 112, 255]) <|
  .cond (t 24) (.seq (.region [m 4 (.mov (.c (.bool false)))]) <|
  .ret) (.skip)) <|
  .region [m 25 (.bin .add .num (t 13) (.c (i 1))), m 13 (.mov (t 25))]) <|
  .seq (.region [m 4 (.mov (.c (.bool true)))]) <|
  .ret
def vf146 : VFun := ⟨26, 0, vb146, [.tmp 4], false⟩
theorem cf146 : cFun Tryz.prog rawF false Tryz.f146 = some vf146 := by kernel_rfl
theorem T146 (h : HT σ args Post vb146 vf146 []) (hl : args.length ≤ 26 := by exact Nat.le_of_ble_eq_true rfl) : T Tryz.prog 146 args σ Post := T.walk Tryz.func146 cf146 hl rfl h
@[reducible] def vb147 : VC :=
  .seq (.region [m 2 (.box 0 (t 0)), m 3 (.box 1 (t 1)), m 4 (.mov (.c (.bool false)))]) <|
  .seq (.region [m 5 (.field 1 (t 2)), m 6 (.load none (t 5)), m 7 (.field 1 (t 3)), m 8 (.load none (t 7)), m 9 (.bin .eql .num (t 6) (t 8)), m 10 (.mov (t 9)), g 11 10 true (.field 3 (t 2)), g 12 10 true (.load (some 17) (t 11)), g 13 10 true (.field 3 (t 3)), g 14 10 true (.load (some 17) (t 13)), g 15 10 true (.eqAgg [(.i .i64), (.i .u8), (.i .u8), (.i .u8), (.i .u8), (.i .u8), (.i .u8), (.i .u8), (.i .u8), (.i .u8), (.i .u8), (.i .u8), (.i .u8), (.i .u8), (.i .u8), (.i .u8), (.i .u8)] false (t 12) (t 14)), m 16 (.pick (t 10) (t 15) (.c (.bool false))), m 17 (.mov (t 16)), g 18 17 true (.field 20 (t 2)), g 19 17 true (.load none (t 18)), g 20 17 true (.field 20 (t 3)), g 21 17 true (.load none (t 20)), g 22 17 true (.call false 188 [(t 19), (t 21)]), m 23 (.pick (t 17) (t 22) (.c (.bool false))), m 4 (.mov (t 23))]) <|
  .ret
def vf147 : VFun := ⟨24, 2, vb147, [.tmp 4], false⟩
theorem cf147 : cFun Tryz.prog rawF false Tryz.f147 = some vf147 := by kernel_rfl
theorem T147 (h : HT σ args Post vb147 vf147 [dd, dd]) (hl : args.length ≤ 24 := by exact Nat.le_of_ble_eq_true rfl) : T Tryz.prog 147 args σ Post := T.walk Tryz.func147 cf147 hl rfl h
@[reducible] def vb11 : VC :=
  .seq (.region [m 0 (.mov (.c (.bool false)))]) <|
  .seq (.region [m 7 (.call false 30 [(.c (b 1)), (.c (b 1))]), m 8 (.call false 31 [(.c (b 10)), (.c o), (.c o), (.c (b 1))]), m 9 (.build [q, q, q, o, o, o, o, o, o, o, o, q, q, o, o, o, o, o, o, o, o, o, o, o, o, o, o, o, o, q, o, o, o, o, o, o, o, o, o, o, o, o, o, o, o, o, q, o, o, o, o, o, o, o, o, o, o, o, o, o, o, o, o, (.str []), o, o, o, o, o, o, o, o, q, o, o, o, o, o, o, o, o, o, o, o, o, o, o, o, o, q, q, q, o, o, o, o, o, o, o, o, o, o, o, o, o, o, o, o, q, .nils, q, q, q, o, o, o, o, o, o, o, o, o, o, o, o, o, o, o, o, .nils, .nils, .nils, q, q, o, o, o, o, o, o, o, o, o, o, o, o, o, o, o, o] [(0, 132, (t 7)), (132, 1, (.c (i 1))), (133, 17, (t 8))]), m 1 (.alloc 0 [q, q, q, o, o, o, o, o, o, o, o, q, q, o, o, o, o, o, o, o, o, o, o, o, o, o, o, o, o, q, o, o, o, o, o, o, o, o, o, o, o, o, o, o, o, o, q, o, o, o, o, o, o, o, o, o, o, o, o, o, o, o, o, (.str []), o, o, o, o, o, o, o, o, q, o, o, o, o, o, o, o, o, o, o, o, o, o, o, o, o, q, q, q, o, o, o, o, o, o, o, o, o, o, o, o, o, o, o, o, q, .nils, q, q, q, o, o, o, o, o, o, o, o, o, o, o, o, o, o, o, o, .nils, .nils, .nils, q, q, o, o, o, o, o, o, o, o, o, o, o, o, o, o, o, o]), e (.store 150 (t 1) (t 9))]) <|
  .seq (.region [m 10 (.call false 31 [(.c (b 10)), (.c o), (.c o), (.c (b 9))]), m 2 (.alloc 1 [q, o, o, o, o, o, o, o, o, o, o, o, o, o, o, o, o]), e (.store 17 (t 2) (t 10))]) <|
  .seq (.dreg [(m 12 (.load (some 17) (t 2)), []), (m 13 (.load (some 150) (t 1)), []), (m 14 (.call false 31 [(.c (b 10)), (.c o), (.c o), (.c (b 2))]), []), (m 15 (.call false 13 [(t 12), (.c (.bool true)), (t 13), (.c (i 1)), (.c q), (.c (i 2)), (t 14)]), [0, 1, 2, 2]), (m 11 (.mov (t 15)), [3]), (m 16 (.extract 0 (t 11)), [4]), (m 17 (.extract 1 (t 11)), [4]), (m 3 (.alloc 2 [q, q, q, o, o, o, o, o, o, o, o, q, q, o, o, o, o, o, o, o, o, o, o, o, o, o, o, o, o, q, o, o, o, o, o, o, o, o, o, o, o, o, o, o, o, o, q, o, o, o, o, o, o, o, o, o, o, o, o, o, o, o, o, (.str []), o, o, o, o, o, o, o, o, q, o, o, o, o, o, o, o, o, o, o, o, o, o, o, o, o, q, q, q, o, o, o, o, o, o, o, o, o, o, o, o, o, o, o, o, q, .nils, q, q, q, o, o, o, o, o, o, o, o, o, o, o, o, o, o, o, o, .nils, .nils, .nils]), []), (e (.store 132 (t 3) (t 16)), [7, 5, 3, 0, 1, 2, 3, 4, 5, 7]), (m 4 (.mov (t 17)), [6, 8, 0, 1, 2, 3, 4, 5, 6, 7, 8])] [(2, 0), (2, 1), (2, 2), (2, 3), (2, 4), (2, 5), (2, 6), (0, 7), (0, 8), (2, 9)] [0, 0, 0, 7, 15, 31, 31, 0, 191, 511]) <|
  .seq (.dreg [(m 19 (.load (some 17) (t 2)), []), (m 20 (.load (some 150) (t 1)), []), (m 21 (.call false 31 [(.c (b 10)), (.c o), (.c o), (.c (b 2))]), []), (m 22 (.call false 13 [(t 19), (.c (.bool true)), (t 20), (.c q), (.c q), (.c (i 2)), (t 21)]), [0, 1, 2, 2]), (m 18 (.mov (t 22)), [3]), (m 23 (.extract 0 (t 18)), [4]), (m 24 (.extract 1 (t 18)), [4]), (m 5 (.alloc 3 [q, q, q, o, o, o, o, o, o, o, o, q, q, o, o, o, o, o, o, o, o, o, o, o, o, o, o, o, o, q, o, o, o, o, o, o, o, o, o, o, o, o, o, o, o, o, q, o, o, o, o, o, o, o, o, o, o, o, o, o, o, o, o, (.str []), o, o, o, o, o, o, o, o, q, o, o, o, o, o, o, o, o, o, o, o, o, o, o, o, o, q, q, q, o, o, o, o, o, o, o, o, o, o, o, o, o, o, o, o, q, .nils, q, q, q, o, o, o, o, o, o, o, o, o, o, o, o, o, o, o, o, .nils, .nils, .nils]), []), (e (.store 132 (t 5) (t 23)), [7, 5, 3, 0, 1, 2, 3, 4, 5, 7]), (m 6 (.mov (t 24)), [6, 8, 0, 1, 2, 3, 4, 5, 6, 7, 8])] [(2, 0), (2, 1), (2, 2), (2, 3), (2, 4), (2, 5), (2, 6), (0, 7), (0, 8), (2, 9)] [0, 0, 0, 7, 15, 31, 31, 0, 191, 511]) <|
  .seq (.dreg [(m 25 (.mov (t 4)), []), (m 26 (.mov (t 25)), [0]), (g 27 26 true (.field 108 (t 3)), [1]), (g 28 26 true (.field 4 (t 27)), [2, 1]), (g 29 26 true (.load (some 17) (t 28)), [3, 1]), (g 30 26 true (.field 133 (t 1)), [1]), (g 31 26 true (.load (some 17) (t 30)), [5, 1]), (g 32 26 true (.eqAgg [(.i .i64), (.i .u8), (.i .u8), (.i .u8), (.i .u8), (.i .u8), (.i .u8), (.i .u8), (.i .u8), (.i .u8), (.i .u8), (.i .u8), (.i .u8), (.i .u8), (.i .u8), (.i .u8), (.i .u8)] false (t 29) (t 31)), [4, 6, 1]), (m 33 (.pick (t 26) (t 32) (.c (.bool false))), [1, 7]), (m 34 (.mov (t 33)), [8, 1]), (g 35 34 true (.field 108 (t 3)), [9]), (g 36 34 true (.field 21 (t 35)), [10, 9]), (g 37 34 true (.load none (t 36)), [11, 9]), (g 38 34 true (.len (t 37)), [12, 9]), (g 39 34 true (.bin .eql .num (t 38) (.c (i 1))), [13, 9]), (m 40 (.pick (t 34) (t 39) (.c (.bool false))), [9, 14]), (m 41 (.mov (t 40)), [15, 9]), (g 42 41 true (.field 108 (t 3)), [16]), (g 43 41 true (.field 21 (t 42)), [17, 16]), (g 44 41 true (.load none (t 43)), [18, 16]), (g 45 41 true (.index 17 (t 44) (.c q)), [19, 16]), (g 46 41 true (.load (some 17) (t 45)), [20, 16]), (g 47 41 true (.load (some 17) (t 2)), [16]), (g 48 41 true (.eqAgg [(.i .i64), (.i .u8), (.i .u8), (.i .u8), (.i .u8), (.i .u8), (.i .u8), (.i .u8), (.i .u8), (.i .u8), (.i .u8), (.i .u8), (.i .u8), (.i .u8), (.i .u8), (.i .u8), (.i .u8)] false (t 46) (t 47)), [21, 22, 16]), (m 49 (.pick (t 41) (t 48) (.c (.bool false))), [16, 23]), (m 50 (.mov (t 49)), [24, 16]), (g 51 50 true (.mov (t 6)), [25]), (g 52 50 true (.un .not (t 51)), [26, 25]), (m 53 (.pick (t 50) (t 52) (.c (.bool false))), [25, 27]), (m 54 (.mov (t 53)), [28, 25]), (g 55 54 true (.load (some 17) (t 2)), [29]), (g 56 54 true (.build [q, o, o, o, o, o, o, o, o, o, o, o, o, o, o, o, o] []), [29]), (g 57 54 true (.field 0 (t 1)), [29]), (g 58 54 true (.load (some 132) (t 57)), [32, 29]), (g 59 54 true (.call false 16 [(.c (i 65000)), (t 55), (t 56), (t 58)]), [30, 31, 33, 29, 29]), (m 60 (.pick (t 54) (t 59) (.c (.bool false))), [29, 34]), (m 61 (.mov (t 60)), [35, 34]), (g 62 61 true (.load (some 17) (t 2)), [36]), (g 63 61 true (.load (some 17) (t 2)), [36]), (g 64 61 true (.load (some 132) (t 3)), [36]), (g 65 61 true (.call false 16 [(.c (i 65000)), (t 62), (t 63), (t 64)]), [37, 38, 39, 36, 36]), (g 66 61 true (.un .not (t 65)), [40, 36]), (m 67 (.pick (t 61) (t 66) (.c (.bool false))), [36, 41]), (m 68 (.mov (t 67)), [42, 40]), (g 69 68 true (.buildSlice 4 1 2 [q] [(0, (.c q)), (1, (.c (i 1)))]), [43]), (g 70 68 true (.call false 32 [(t 69), (.c (i 2))]), [44, 43, 43]), (g 71 68 true (.bin .eql .num (t 70) (.c (i 1))), [45, 43]), (m 72 (.pick (t 68) (t 71) (.c (.bool false))), [43, 46]), (m 0 (.mov (t 72)), [47, 45, 0, 1, 2, 3, 4, 5, 6, 7, 8, 9, 10, 11, 12, 13, 14, 15, 16, 17, 18, 19, 20, 21, 22, 23, 24, 25, 26, 27, 28, 29, 30, 31, 32, 33, 34, 35, 36, 37, 38, 39, 40, 41, 42, 43, 44, 45, 46, 47])] [(2, 0), (2, 1), (1, 2), (1, 3), (1, 4), (1, 5), (1, 6), (2, 7), (2, 8), (2, 9), (1, 10), (1, 11), (1, 12), (1, 13), (2, 14), (2, 15), (2, 16), (1, 17), (1, 18), (1, 19), (1, 20), (1, 21), (1, 22), (2, 23), (2, 24), (2, 25), (2, 26), (2, 27), (2, 28), (2, 29), (1, 30), (2, 31), (1, 32), (1, 33), (1, 34), (2, 35), (2, 36), (1, 37), (1, 38), (1, 39), (1, 40), (2, 41), (2, 42), (2, 43), (0, 44), (1, 45), (2, 46), (2, 47), (2, 48)] [0, 1, 3, 7, 15, 3, 35, 127, 255, 511, 1023, 2047, 4095, 8191, 16383, 32767, 65535, 131071, 262143, 524287, 1048575, 2097151, 131071, 8388607, 16777215, 33554431, 67108863, 134217727, 268435455, 536870911, 1073741823, 1073741823, 1073741823, 5368709119, 17179869183, 34359738367, 68719476735, 137438953471, 137438953471, 137438953471, 1099511627775, 2199023255551, 4398046511103, 8796093022207, 17592186044415, 35184372088831, 70368744177663, 140737488355327, 281474976710655]) <|
  .ret
def vf11 : VFun := ⟨73, 5, vb11, [.tmp 0], false⟩
theorem cf11 : cFun Tryz.prog rawF false Tryz.f11 = some vf11 := by kernel_rfl
@[reducible] def vb3 : VC :=
  .seq (.region [m 3 (.box 0 (t 0)), m 5 (.box 1 (t 2)), m 6 (.mov (.c (.bool false)))]) <|
  .seq (.region [m 15 (.call false 11 []), m 7 (.mov (t 15))]) <|
  .seq (.region [m 16 (.field 18 (t 3)), m 17 (.field 0 (t 16)), m 18 (.load (some 132) (t 17)), m 19 (.call false 12 [(t 18)]), m 8 (.mov (t 19))]) <|
  .seq (.seq (.region [m 20 (.mov (t 8)), m 21 (.un .not (t 20))]) <|
  .cond (t 21) (.seq (.region [m 22 (.mov (t 7)), m 6 (.mov (t 22))]) <|
  .ret) (.skip)) <|
  .seq (.region [m 24 (.field 0 (t 3)), m 25 (.load (some 17) (t 24)), m 26 (.field 17 (t 3)), m 27 (.load none (t 26)), m 28 (.field 18 (t 3)), m 29 (.load (some 150) (t 28)), m 30 (.field 168 (t 3)), m 31 (.load none (t 30)), m 32 (.field 169 (t 3)), m 33 (.load none (t 32)), m 34 (.field 170 (t 3)), m 35 (.load none (t 34)), m 36 (.field 171 (t 3)), m 37 (.load (some 17) (t 36)), m 38 (.call false 13 [(t 25), (t 27), (t 29), (t 31), (t 33), (t 35), (t 37)]), m 23 (.mov (t 38)), m 39 (.extract 0 (t 23)), m 40 (.extract 1 (t 23)), m 9 (.alloc 2 [q, q, q, o, o, o, o, o, o, o, o, q, q, o, o, o, o, o, o, o, o, o, o, o, o, o, o, o, o, q, o, o, o, o, o, o, o, o, o, o, o, o, o, o, o, o, q, o, o, o, o, o, o, o, o, o, o, o, o, o, o, o, o, (.str []), o, o, o, o, o, o, o, o, q, o, o, o, o, o, o, o, o, o, o, o, o, o, o, o, o, q, q, q, o, o, o, o, o, o, o, o, o, o, o, o, o, o, o, o, q, .nils, q, q, q, o, o, o, o, o, o, o, o, o, o, o, o, o, o, o, o, .nils, .nils, .nils]), e (.store 132 (t 9) (t 39)), m 10 (.mov (t 40))]) <|
  .seq (.seq (.region [m 41 (.mov (t 10)), m 42 (.un .not (t 41))]) <|
  .cond (t 42) (.seq (.region [m 43 (.mov (t 7)), m 44 (.mov (t 43)), g 45 44 true (.load (some 132) (t 9)), g 46 44 true (.build [q, q, q, o, o, o, o, o, o, o, o, q, q, o, o, o, o, o, o, o, o, o, o, o, o, o, o, o, o, q, o, o, o, o, o, o, o, o, o, o, o, o, o, o, o, o, q, o, o, o, o, o, o, o, o, o, o, o, o, o, o, o, o, (.str []), o, o, o, o, o, o, o, o, q, o, o, o, o, o, o, o, o, o, o, o, o, o, o, o, o, q, q, q, o, o, o, o, o, o, o, o, o, o, o, o, o, o, o, o, q, .nils, q, q, q, o, o, o, o, o, o, o, o, o, o, o, o, o, o, o, o, .nils, .nils, .nils] []), g 47 44 true (.call false 14 [(t 45), (t 46)]), m 48 (.pick (t 44) (t 47) (.c (.bool false))), m 6 (.mov (t 48))]) <|
  .ret) (.skip)) <|
  .seq (.region [m 50 (.load (some 132) (t 9)), m 51 (.call false 15 [(t 50)]), m 49 (.mov (t 51)), m 52 (.extract 0 (t 49)), m 53 (.extract 1 (t 49)), m 11 (.mov (t 52)), m 12 (.mov (t 53))]) <|
  .seq (.region [m 55 (.field 18 (t 3)), m 56 (.field 0 (t 55)), m 57 (.load (some 132) (t 56)), m 58 (.call false 15 [(t 57)]), m 54 (.mov (t 58)), m 59 (.extract 0 (t 54)), m 60 (.extract 1 (t 54)), m 13 (.mov (t 59)), m 14 (.mov (t 60))]) <|
  .seq (.seq (.region [m 61 (.mov (t 12)), m 62 (.un .not (t 61)), m 63 (.mov (t 62)), g 64 63 false (.mov (t 14)), g 65 63 false (.un .not (t 64)), m 66 (.pick (t 63) (.c (.bool true)) (t 65)), m 67 (.mov (t 66)), g 68 67 false (.mov (t 11)), g 69 67 false (.mov (t 13)), g 70 67 false (.bin .neq .num (t 68) (t 69)), m 71 (.pick (t 67) (.c (.bool true)) (t 70)), m 72 (.mov (t 71)), g 73 72 false (.field 170 (t 3)), g 74 72 false (.load none (t 73)), g 75 72 false (.field 18 (t 3)), g 76 72 false (.field 132 (t 75)), g 77 72 false (.load none (t 76)), g 78 72 false (.bin .eql .num (t 74) (t 77)), m 79 (.pick (t 72) (.c (.bool true)) (t 78))]) <|
  .cond (t 79) (.seq (.region [m 6 (.mov (.c (.bool false)))]) <|
  .ret) (.skip)) <|
  .seq (.seq (.region [m 80 (.field 18 (t 3)), m 81 (.field 132 (t 80)), m 82 (.load none (t 81)), m 83 (.bin .eql .num (t 82) (.c q))]) <|
  .cond (t 83) (.seq (.region [m 84 (.mov (t 7)), m 85 (.mov (t 84)), g 86 85 true (.field 108 (t 9)), g 87 85 true (.field 21 (t 86)), g 88 85 true (.load none (t 87)), g 89 85 true (.len (t 88)), g 90 85 true (.field 18 (t 3)), g 91 85 true (.field 0 (t 90)), g 92 85 true (.field 108 (t 91)), g 93 85 true (.field 21 (t 92)), g 94 85 true (.load none (t 93)), g 95 85 true (.len (t 94)), g 96 85 true (.bin .eql .num (t 89) (t 95)), m 97 (.pick (t 85) (t 96) (.c (.bool false))), m 6 (.mov (t 97))]) <|
  .ret) (.skip)) <|
  .seq (.region [m 98 (.mov (t 7)), m 99 (.mov (t 98)), g 100 99 true (.mov (t 1)), g 101 99 true (.load (some 17) (t 5)), g 102 99 true (.field 0 (t 3)), g 103 99 true (.load (some 17) (t 102)), g 104 99 true (.load (some 132) (t 9)), g 105 99 true (.call false 16 [(t 100), (t 101), (t 103), (t 104)]), g 106 99 true (.un .not (t 105)), m 107 (.pick (t 99) (t 106) (.c (.bool false))), m 108 (.mov (t 107)), g 109 108 true (.mov (t 1)), g 110 108 true (.field 108 (t 9)), g 111 108 true (.field 4 (t 110)), g 112 108 true (.load (some 17) (t 111)), g 113 108 true (.build [q, o, o, o, o, o, o, o, o, o, o, o, o, o, o, o, o] []), g 114 108 true (.load (some 132) (t 9)), g 115 108 true (.call false 16 [(t 109), (t 112), (t 113), (t 114)]), g 116 108 true (.un .not (t 115)), m 117 (.pick (t 108) (t 116) (.c (.bool false))), m 118 (.mov (t 117)), g 119 118 true (.field 18 (t 3)), g 120 118 true (.field 0 (t 119)), g 121 118 true (.field 108 (t 120)), g 122 118 true (.field 4 (t 121)), g 123 118 true (.field 0 (t 122)), g 124 118 true (.load none (t 123)), g 125 118 true (.bin .gtr .num (t 124) (.c q)), g 126 118 true (.mov (t 125)), g 127 126 false (.field 108 (t 9)), g 128 126 false (.field 4 (t 127)), g 129 126 false (.load (some 17) (t 128)), g 130 126 false (.field 18 (t 3)), g 131 126 false (.field 133 (t 130)), g 132 126 false (.load (some 17) (t 131)), g 133 126 false (.eqAgg [(.i .i64), (.i .u8), (.i .u8), (.i .u8), (.i .u8), (.i .u8), (.i .u8), (.i .u8), (.i .u8), (.i .u8), (.i .u8), (.i .u8), (.i .u8), (.i .u8), (.i .u8), (.i .u8), (.i .u8)] false (t 129) (t 132)), g 134 118 true (.pick (t 126) (.c (.bool true)) (t 133)), m 135 (.pick (t 118) (t 134) (.c (.bool false))), m 6 (.mov (t 135))]) <|
  .ret
def vf3 : VFun := ⟨136, 3, vb3, [.tmp 6], false⟩
theorem cf3 : cFun Tryz.prog rawF false Tryz.f3 = some vf3 := by kernel_rfl
theorem T3 (h : HT σ args Post vb3 vf3 [dd, dd, dd]) (hl : args.length ≤ 136 := by exact Nat.le_of_ble_eq_true rfl) : T Tryz.prog 3 args σ Post := T.walk Tryz.func3 cf3 hl rfl h
@[reducible] def vb4 : VC :=
  .seq (.region [m 1 (.box 0 (t 0)), m 2 (.mov (.c (.bool false)))]) <|
  .seq (.region [m 9 (.call false 11 []), m 3 (.mov (t 9))]) <|
  .seq (.region [m 10 (.field 18 (t 1)), m 11 (.field 0 (t 10)), m 12 (.load (some 132) (t 11)), m 13 (.call false 12 [(t 12)]), m 4 (.mov (t 13))]) <|
  .seq (.seq (.region [m 14 (.mov (t 4)), m 15 (.un .not (t 14))]) <|
  .cond (t 15) (.seq (.region [m 16 (.mov (t 3)), m 2 (.mov (t 16))]) <|
  .ret) (.skip)) <|
  .seq (.region [m 18 (.field 0 (t 1)), m 19 (.load (some 17) (t 18)), m 20 (.field 18 (t 1)), m 21 (.load (some 150) (t 20)), m 22 (.field 168 (t 1)), m 23 (.load none (t 22)), m 24 (.field 169 (t 1)), m 25 (.load none (t 24)), m 26 (.field 170 (t 1)), m 27 (.load none (t 26)), m 28 (.field 171 (t 1)), m 29 (.load (some 17) (t 28)), m 30 (.call false 13 [(t 19), (.c (.bool false)), (t 21), (t 23), (t 25), (t 27), (t 29)]), m 17 (.mov (t 30)), m 31 (.extract 0 (t 17)), m 32 (.extract 1 (t 17)), m 5 (.alloc 1 [q, q, q, o, o, o, o, o, o, o, o, q, q, o, o, o, o, o, o, o, o, o, o, o, o, o, o, o, o, q, o, o, o, o, o, o, o, o, o, o, o, o, o, o, o, o, q, o, o, o, o, o, o, o, o, o, o, o, o, o, o, o, o, (.str []), o, o, o, o, o, o, o, o, q, o, o, o, o, o, o, o, o, o, o, o, o, o, o, o, o, q, q, q, o, o, o, o, o, o, o, o, o, o, o, o, o, o, o, o, q, .nils, q, q, q, o, o, o, o, o, o, o, o, o, o, o, o, o, o, o, o, .nils, .nils, .nils]), e (.store 132 (t 5) (t 31)), m 6 (.mov (t 32))]) <|
  .seq (.region [m 34 (.field 0 (t 1)), m 35 (.load (some 17) (t 34)), m 36 (.field 17 (t 1)), m 37 (.load none (t 36)), m 38 (.field 18 (t 1)), m 39 (.load (some 150) (t 38)), m 40 (.field 168 (t 1)), m 41 (.load none (t 40)), m 42 (.field 169 (t 1)), m 43 (.load none (t 42)), m 44 (.field 18 (t 1)), m 45 (.field 132 (t 44)), m 46 (.load none (t 45)), m 47 (.field 171 (t 1)), m 48 (.load (some 17) (t 47)), m 49 (.call false 13 [(t 35), (t 37), (t 39), (t 41), (t 43), (t 46), (t 48)]), m 33 (.mov (t 49)), m 50 (.extract 0 (t 33)), m 51 (.extract 1 (t 33)), m 7 (.alloc 2 [q, q, q, o, o, o, o, o, o, o, o, q, q, o, o, o, o, o, o, o, o, o, o, o, o, o, o, o, o, q, o, o, o, o, o, o, o, o, o, o, o, o, o, o, o, o, q, o, o, o, o, o, o, o, o, o, o, o, o, o, o, o, o, (.str []), o, o, o, o, o, o, o, o, q, o, o, o, o, o, o, o, o, o, o, o, o, o, o, o, o, q, q, q, o, o, o, o, o, o, o, o, o, o, o, o, o, o, o, o, q, .nils, q, q, q, o, o, o, o, o, o, o, o, o, o, o, o, o, o, o, o, .nils, .nils, .nils]), e (.store 132 (t 7) (t 50)), m 8 (.mov (t 51))]) <|
  .seq (.region [m 52 (.mov (t 3)), m 53 (.mov (t 52)), g 54 53 true (.mov (t 6)), g 55 53 true (.un .not (t 54)), g 56 53 true (.mov (t 55)), g 57 56 false (.field 18 (t 1)), g 58 56 false (.field 132 (t 57)), g 59 56 false (.load none (t 58)), g 60 56 false (.bin .eql .num (t 59) (.c q)), g 61 53 true (.pick (t 56) (.c (.bool true)) (t 60)), m 62 (.pick (t 53) (t 61) (.c (.bool false))), m 63 (.mov (t 62)), g 64 63 true (.mov (t 8)), g 65 63 true (.un .not (t 64)), m 66 (.pick (t 63) (t 65) (.c (.bool false))), m 2 (.mov (t 66))]) <|
  .ret
def vf4 : VFun := ⟨67, 3, vb4, [.tmp 2], false⟩
theorem cf4 : cFun Tryz.prog rawF false Tryz.f4 = some vf4 := by kernel_rfl
theorem T4 (h : HT σ args Post vb4 vf4 [dd, dd, dd]) (hl : args.length ≤ 67 := by exact Nat.le_of_ble_eq_true rfl) : T Tryz.prog 4 args σ Post := T.walk Tryz.func4 cf4 hl rfl h
@[reducible] def vb5 : VC :=
  .seq (.region [m 2 (.box 0 (t 0)), m 3 (.box 1 (t 1)), m 4 (.mov (.c (.bool false)))]) <|
  .seq (.region [m 10 (.call false 11 []), m 5 (.mov (t 10))]) <|
  .seq (.region [m 12 (.load (some 132) (t 2)), m 13 (.call false 15 [(t 12)]), m 11 (.mov (t 13)), m 14 (.extract 0 (t 11)), m 15 (.extract 1 (t 11)), m 6 (.mov (t 14)), m 7 (.mov (t 15))]) <|
  .seq (.seq (.region [m 16 (.mov (t 7)), m 17 (.un .not (t 16)), m 18 (.mov (t 17)), g 19 18 false (.field 170 (t 3)), g 20 18 false (.load none (t 19)), g 21 18 false (.bin .eql .num (t 20) (.c q)), m 22 (.pick (t 18) (.c (.bool true)) (t 21)), m 23 (.mov (t 22)), g 24 23 false (.field 108 (t 2)), g 25 23 false (.field 4 (t 24)), g 26 23 false (.load (some 17) (t 25)), g 27 23 false (.field 171 (t 3)), g 28 23 false (.load (some 17) (t 27)), g 29 23 false (.eqAgg [(.i .i64), (.i .u8), (.i .u8), (.i .u8), (.i .u8), (.i .u8), (.i .u8), (.i .u8), (.i .u8), (.i .u8), (.i .u8), (.i .u8), (.i .u8), (.i .u8), (.i .u8), (.i .u8), (.i .u8)] false (t 26) (t 28)), g 30 23 false (.mov (t 29)), g 31 30 true (.field 171 (t 3)), g 32 30 true (.field 0 (t 31)), g 33 30 true (.load none (t 32)), g 34 30 true (.bin .gtr .num (t 33) (.c q)), g 35 23 false (.pick (t 30) (t 34) (.c (.bool false))), m 36 (.pick (t 23) (.c (.bool true)) (t 35))]) <|
  .cond (t 36) (.seq (.region [m 37 (.mov (t 5)), m 4 (.mov (t 37))]) <|
  .ret) (.skip)) <|
  .seq (.seq (.region [m 38 (.field 108 (t 2)), m 39 (.field 4 (t 38)), m 40 (.load (some 17) (t 39)), m 41 (.field 171 (t 3)), m 42 (.load (some 17) (t 41)), m 43 (.eqAgg [(.i .i64), (.i .u8), (.i .u8), (.i .u8), (.i .u8), (.i .u8), (.i .u8), (.i .u8), (.i .u8), (.i .u8), (.i .u8), (.i .u8), (.i .u8), (.i .u8), (.i .u8), (.i .u8), (.i .u8)] false (t 40) (t 42)), m 44 (.mov (t 43)), g 45 44 true (.field 108 (t 2)), g 46 44 true (.field 4 (t 45)), g 47 44 true (.load (some 17) (t 46)), g 48 44 true (.build [q, o, o, o, o, o, o, o, o, o, o, o, o, o, o, o, o] []), g 49 44 true (.eqAgg [(.i .i64), (.i .u8), (.i .u8), (.i .u8), (.i .u8), (.i .u8), (.i .u8), (.i .u8), (.i .u8), (.i .u8), (.i .u8), (.i .u8), (.i .u8), (.i .u8), (.i .u8), (.i .u8), (.i .u8)] true (t 47) (t 48)), m 50 (.pick (t 44) (t 49) (.c (.bool false)))]) <|
  .cond (t 50) (.seq (.region [m 51 (.mov (t 5)), m 4 (.mov (t 51))]) <|
  .ret) (.skip)) <|
  .seq (.region [m 53 (.field 0 (t 3)), m 54 (.load (some 17) (t 53)), m 55 (.field 17 (t 3)), m 56 (.load none (t 55)), m 57 (.load (some 132) (t 2)), m 58 (.field 18 (t 3)), m 59 (.field 133 (t 58)), m 60 (.load (some 17) (t 59)), m 61 (.build [q, q, q, o, o, o, o, o, o, o, o, q, q, o, o, o, o, o, o, o, o, o, o, o, o, o, o, o, o, q, o, o, o, o, o, o, o, o, o, o, o, o, o, o, o, o, q, o, o, o, o, o, o, o, o, o, o, o, o, o, o, o, o, (.str []), o, o, o, o, o, o, o, o, q, o, o, o, o, o, o, o, o, o, o, o, o, o, o, o, o, q, q, q, o, o, o, o, o, o, o, o, o, o, o, o, o, o, o, o, q, .nils, q, q, q, o, o, o, o, o, o, o, o, o, o, o, o, o, o, o, o, .nils, .nils, .nils, q, q, o, o, o, o, o, o, o, o, o, o, o, o, o, o, o, o] [(0, 132, (t 57)), (133, 17, (t 60))]), m 62 (.field 168 (t 3)), m 63 (.load none (t 62)), m 64 (.field 169 (t 3)), m 65 (.load none (t 64)), m 66 (.field 170 (t 3)), m 67 (.load none (t 66)), m 68 (.field 171 (t 3)), m 69 (.load (some 17) (t 68)), m 70 (.call false 13 [(t 54), (t 56), (t 61), (t 63), (t 65), (t 67), (t 69)]), m 52 (.mov (t 70)), m 71 (.extract 0 (t 52)), m 72 (.extract 1 (t 52)), m 8 (.alloc 2 [q, q, q, o, o, o, o, o, o, o, o, q, q, o, o, o, o, o, o, o, o, o, o, o, o, o, o, o, o, q, o, o, o, o, o, o, o, o, o, o, o, o, o, o, o, o, q, o, o, o, o, o, o, o, o, o, o, o, o, o, o, o, o, (.str []), o, o, o, o, o, o, o, o, q, o, o, o, o, o, o, o, o, o, o, o, o, o, o, o, o, q, q, q, o, o, o, o, o, o, o, o, o, o, o, o, o, o, o, o, q, .nils, q, q, q, o, o, o, o, o, o, o, o, o, o, o, o, o, o, o, o, .nils, .nils, .nils]), e (.store 132 (t 8) (t 71)), m 9 (.mov (t 72))]) <|
  .seq (.seq (.region [m 73 (.field 108 (t 2)), m 74 (.field 3 (t 73)), m 75 (.load none (t 74)), m 76 (.bin .eql .num (t 75) (.c (i (-1))))]) <|
  .cond (t 76) (.region [m 77 (.field 108 (t 2)), m 78 (.field 3 (t 77)), e (.store 1 (t 78) (.c (i 100)))]) (.skip)) <|
  .seq (.region [m 79 (.mov (t 5)), m 80 (.mov (t 79)), g 81 80 true (.mov (t 9)), m 82 (.pick (t 80) (t 81) (.c (.bool false))), m 83 (.mov (t 82)), g 84 83 true (.load (some 132) (t 8)), g 85 83 true (.load (some 132) (t 2)), g 86 83 true (.call false 17 [(t 84), (t 85)]), m 87 (.pick (t 83) (t 86) (.c (.bool false))), m 4 (.mov (t 87))]) <|
  .ret
def vf5 : VFun := ⟨88, 3, vb5, [.tmp 4], false⟩
theorem cf5 : cFun Tryz.prog rawF false Tryz.f5 = some vf5 := by kernel_rfl
theorem T5 (h : HT σ args Post vb5 vf5 [dd, dd, dd]) (hl : args.length ≤ 88 := by exact Nat.le_of_ble_eq_true rfl) : T Tryz.prog 5 args σ Post := T.walk Tryz.func5 cf5 hl rfl h
end Go.Proofs.YtjhmobdncjhcnaaGreatDoor
