/- Functions of the program, in the small language. -/
import Derived.Test.YtjhmobdncjhcnaaGreatDoorVZ
namespace Go.Proofs.YtjhmobdncjhcnaaGreatDoor
open Go Go.V D
variable {args : List PV} {σ : VHeap} {Post : KP}
@[reducible] def vb238 : VC :=
  .seq (.region [m 1 (.box 0 (t 0)), m 2 (.newRow 1 1), m 3 (.mov (.c q))]) <|
  .seq (.seq (.region [m 7 (.load (some 27) (t 1)), m 8 (.call false 254 [(t 7)]), m 9 (.un .not (t 8))]) <|
  .cond (t 9) (.seq (.region [m 2 (.newRow 1 1), m 3 (.mov (.c (i 1)))]) <|
  .ret) (.skip)) <|
  .seq (.region [m 11 (.field 26 (t 1)), m 12 (.load none (t 11)), m 13 (.call false 255 [(t 12), (.c (.bool true))]), m 10 (.mov (t 13)), m 14 (.extract 0 (t 10)), m 15 (.extract 1 (t 10)), m 4 (.mov (t 14)), m 5 (.mov (t 15))]) <|
  .seq (.region [m 16 (.field 8 (t 1)), m 17 (.field 17 (t 16)), m 18 (.load none (t 17)), m 19 (.bin .add .num (.c (i 88)) (t 18)), m 20 (.convInt .u8 (t 19)), m 21 (.buildSlice 2 1 1 [o] [(0, (t 20))]), m 22 (.mov (t 4)), m 23 (.append 3 1 1 (t 21) (t 22)), m 6 (.mov (t 23))]) <|
  .seq (.region [m 24 (.mov (t 6)), m 25 (.field 0 (t 1)), m 26 (.sliceArr 8 1 (t 25) none none), m 27 (.append 4 1 1 (t 24) (t 26)), m 6 (.mov (t 27))]) <|
  .seq (.region [m 28 (.mov (t 6)), m 29 (.field 8 (t 1)), m 30 (.field 0 (t 29)), m 31 (.field 1 (t 30)), m 32 (.field 8 (t 1)), m 33 (.field 17 (t 32)), m 34 (.load none (t 33)), m 35 (.call false 256 [(t 34)]), m 36 (.sliceArr 16 1 (t 31) none (some (t 35))), m 37 (.append 5 1 1 (t 28) (t 36)), m 2 (.mov (t 37)), m 3 (.mov (.c q))]) <|
  .ret
def vf238 : VFun := ⟨38, 6, vb238, [.tmp 2, .tmp 3], false⟩
theorem cf238 : cFun Tryz.prog rawF false Tryz.f238 = some vf238 := by kernel_rfl
theorem T238 (h : HT σ args Post vb238 vf238 [dd, dd, dd, dd, dd, dd]) (hl : args.length ≤ 38 := by exact Nat.le_of_ble_eq_true rfl) : T Tryz.prog 238 args σ Post := T.walk Tryz.func238 cf238 hl rfl h
@[reducible] def vb239 : VC :=
  .seq (.region [m 4 (.alloc 0 [o, o, o, o, o, o, o, o, q, o, o, o, o, o, o, o, o, o, o, o, o, o, o, o, o, q, q]), m 5 (.mov (.c q)), m 6 (.mov (.c q))]) <|
  .seq (.seq (.region [m 14 (.mov (t 1)), m 15 (.bin .neq .num (t 14) (.c (i 4))), m 16 (.mov (t 15)), g 17 16 true (.mov (t 1)), g 18 16 true (.bin .neq .num (t 17) (.c (i 16))), m 19 (.pick (t 16) (t 18) (.c (.bool false)))]) <|
  .cond (t 19) (.seq (.region [m 20 (.build [o, o, o, o, o, o, o, o, q, o, o, o, o, o, o, o, o, o, o, o, o, o, o, o, o, q, q] []), e (.store 27 (t 4) (t 20)), m 5 (.mov (.c q)), m 6 (.mov (.c (i 1)))]) <|
  .ret) (.skip)) <|
  .seq (.region [m 21 (.mov (t 0)), m 22 (.call false 56 [(t 21)]), m 7 (.mov (t 22))]) <|
  .seq (.region [m 23 (.mov (t 7)), m 24 (.call false 58 [(t 23), (.c (i 1))]), m 8 (.mov (t 24))]) <|
  .seq (.region [m 25 (.mov (t 7)), m 26 (.mov (t 8)), m 27 (.call false 256 [(t 26)]), m 28 (.call false 221 [(t 25), (t 27)]), m 9 (.mov (t 28))]) <|
  .seq (.seq (.region [m 29 (.mov (t 7)), m 30 (.nilCheck (t 29)), m 31 (.field 0 (t 30)), m 32 (.call false 222 [(t 31)])]) <|
  .cond (t 32) (.seq (.region [m 33 (.build [o, o, o, o, o, o, o, o, q, o, o, o, o, o, o, o, o, o, o, o, o, o, o, o, o, q, q] []), e (.store 27 (t 4) (t 33)), m 5 (.mov (.c q)), m 6 (.mov (.c (i 3)))]) <|
  .ret) (.skip)) <|
  .seq (.region [m 10 (.alloc 1 [o, o, o, o, o, o, o, o, q, o, o, o, o, o, o, o, o, o, o, o, o, o, o, o, o, q, q])]) <|
  .seq (.region [m 35 (.mov (t 9)), m 36 (.call false 150 [(t 35), (.c (i 3))]), m 37 (.call false 257 [(t 36)]), m 34 (.mov (t 37)), m 38 (.extract 0 (t 34)), m 39 (.extract 1 (t 34)), m 40 (.extract 2 (t 34)), m 41 (.field 26 (t 10)), e (.store 1 (t 41) (t 38))]) <|
  .seq (.dreg [(m 42 (.field 0 (t 10)), []), (m 43 (.sliceArr 8 1 (t 42) none none), [0]), (m 44 (.mov (t 9)), []), (m 45 (.call false 150 [(t 44), (.c (i 8))]), [2]), (m 46 (.copyTo 1 (t 43) (t 45)), [1, 3, 3])] [(2, 0), (2, 1), (2, 2), (0, 3), (0, 4)] [0, 1, 0, 4, 15]) <|
  .seq (.region [m 47 (.mov (t 1)), m 48 (.build [q, o, o, o, o, o, o, o, o, o, o, o, o, o, o, o, o] [(0, 1, (t 47))]), m 49 (.mov (t 8)), m 50 (.bin .sub .num (t 49) (.c (i 88))), m 51 (.build [q, o, o, o, o, o, o, o, o, o, o, o, o, o, o, o, o, q] [(0, 17, (t 48)), (17, 1, (t 50))]), m 52 (.field 8 (t 10)), e (.store 18 (t 52) (t 51))]) <|
  .seq (.dreg [(m 53 (.field 8 (t 10)), []), (m 54 (.field 0 (t 53)), [0]), (m 55 (.field 1 (t 54)), [1]), (m 56 (.sliceArr 16 1 (t 55) none none), [2]), (m 57 (.mov (t 9)), []), (m 58 (.mov (t 9)), []), (m 59 (.nilCheck (t 58)), [5]), (m 60 (.field 0 (t 59)), [6]), (m 61 (.call false 116 [(t 60)]), [7]), (m 62 (.call false 150 [(t 57), (t 61)]), [4, 8, 8]), (m 63 (.copyTo 1 (t 56) (t 62)), [3, 9, 9])] [(2, 0), (2, 1), (2, 2), (2, 3), (2, 4), (2, 5), (1, 6), (1, 7), (0, 8), (0, 9), (0, 10)] [0, 1, 3, 7, 0, 0, 32, 96, 224, 496, 1023]) <|
  .seq (.region [m 64 (.mov (t 8)), m 65 (.call false 256 [(t 64)]), m 66 (.bin .add .num (.c (i 1)) (t 65)), m 11 (.mov (t 66))]) <|
  .seq (.seq (.region [m 68 (.load (some 27) (t 10)), m 69 (.call false 238 [(t 68)]), m 67 (.mov (t 69)), m 70 (.extract 0 (t 67)), m 71 (.extract 1 (t 67)), m 12 (.mov (t 70)), m 13 (.mov (t 71))]) <|
  .seq (.region [m 72 (.mov (t 13)), m 73 (.bin .neq .num (t 72) (.c q)), m 74 (.mov (t 73)), g 75 74 false (.mov (t 12)), g 76 74 false (.mov (t 0)), g 77 74 false (.mov (t 11)), g 78 74 false (.slice 1 (t 76) none (some (t 77))), g 79 74 false (.call false 188 [(t 75), (t 78)]), g 80 74 false (.un .not (t 79)), m 81 (.pick (t 74) (.c (.bool true)) (t 80))]) <|
  .cond (t 81) (.seq (.region [m 82 (.build [o, o, o, o, o, o, o, o, q, o, o, o, o, o, o, o, o, o, o, o, o, o, o, o, o, q, q] []), e (.store 27 (t 4) (t 82)), m 5 (.mov (.c q)), m 6 (.mov (.c (i 4)))]) <|
  .ret) (.skip)) <|
  .seq (.region [m 83 (.load (some 27) (t 10)), m 84 (.mov (t 11)), e (.store 27 (t 4) (t 83)), m 5 (.mov (t 84)), m 6 (.mov (.c q))]) <|
  .ret
def vf239 : VFun := ⟨85, 2, vb239, [.cell 4 (some 27), .tmp 5, .tmp 6], false⟩
theorem cf239 : cFun Tryz.prog rawF false Tryz.f239 = some vf239 := by kernel_rfl
theorem T239 (h : HT σ args Post vb239 vf239 [dd, dd]) (hl : args.length ≤ 85 := by exact Nat.le_of_ble_eq_true rfl) : T Tryz.prog 239 args σ Post := T.walk Tryz.func239 cf239 hl rfl h
@[reducible] def vb254 : VC :=
  .seq (.region [m 1 (.box 0 (t 0)), m 2 (.mov (.c (.bool false)))]) <|
  .seq (.region [m 3 (.field 8 (t 1)), m 4 (.load (some 18) (t 3)), m 5 (.call false 261 [(t 4)]), m 6 (.bin .neq .num (t 5) (.c (.str []))), m 7 (.mov (t 6)), g 8 7 true (.field 26 (t 1)), g 9 7 true (.load none (t 8)), g 10 7 true (.bin .geq .num (t 9) (.c q)), m 11 (.pick (t 7) (t 10) (.c (.bool false))), m 12 (.mov (t 11)), g 13 12 true (.field 26 (t 1)), g 14 12 true (.load none (t 13)), g 15 12 true (.bin .leq .num (t 14) (.c (i 1048575))), m 16 (.pick (t 12) (t 15) (.c (.bool false))), m 2 (.mov (t 16))]) <|
  .ret
def vf254 : VFun := ⟨17, 1, vb254, [.tmp 2], false⟩
theorem cf254 : cFun Tryz.prog rawF false Tryz.f254 = some vf254 := by kernel_rfl
theorem T254 (h : HT σ args Post vb254 vf254 [dd]) (hl : args.length ≤ 17 := by exact Nat.le_of_ble_eq_true rfl) : T Tryz.prog 254 args σ Post := T.walk Tryz.func254 cf254 hl rfl h
@[reducible] def vb207 : VC :=
  .seq (.region [m 2 (.newRow 0 1), m 3 (.mov (.c q))]) <|
  .seq (.region [m 4 (.newRow 1 1)]) <|
  .seq (.seq (.region [m 9 (.mov (t 0)), m 10 (.len (t 9)), m 11 (.mov (.c q))]) <|
  .block 0 <| .loop <| .seq (.region [m 12 (.bin .lss .num (t 11) (t 10))]) <|
  .seq (.cond (t 12) (.skip) (.exit 0)) <|
  .seq (.block 1 <| .seq (.region [m 13 (.index 27 (t 9) (t 11)), m 14 (.load (some 27) (t 13)), m 6 (.alloc 2 [o, o, o, o, o, o, o, o, q, o, o, o, o, o, o, o, o, o, o, o, o, o, o, o, o, q, q]), e (.store 27 (t 6) (t 14))]) <|
  .seq (.region [m 16 (.load (some 27) (t 6)), m 17 (.call false 238 [(t 16)]), m 15 (.mov (t 17)), m 18 (.extract 0 (t 15)), m 19 (.extract 1 (t 15)), m 7 (.mov (t 18)), m 8 (.mov (t 19))]) <|
  .seq (.seq (.region [m 20 (.mov (t 8)), m 21 (.bin .neq .num (t 20) (.c q))]) <|
  .cond (t 21) (.seq (.region [m 22 (.mov (t 8)), m 2 (.newRow 0 1), m 3 (.mov (t 22))]) <|
  .ret) (.skip)) <|
  .region [m 23 (.mov (t 4)), m 24 (.mov (t 7)), m 25 (.append 3 1 1 (t 23) (t 24)), m 4 (.mov (t 25))]) <|
  .region [m 26 (.bin .add .num (t 11) (.c (i 1))), m 11 (.mov (t 26))]) <|
  .seq (.region [m 27 (.mov (t 4)), m 2 (.mov (t 27)), m 3 (.mov (.c q))]) <|
  .ret
def vf207 : VFun := ⟨28, 4, vb207, [.tmp 2, .tmp 3], false⟩
theorem cf207 : cFun Tryz.prog rawF false Tryz.f207 = some vf207 := by kernel_rfl
theorem T207 (h : HT σ args Post vb207 vf207 [dd, dd, dd, dd]) (hl : args.length ≤ 28 := by exact Nat.le_of_ble_eq_true rfl) : T Tryz.prog 207 args σ Post := T.walk Tryz.func207 cf207 hl rfl h
@[reducible] def vb209 : VC :=
  .seq (.region [m 4 (.newRow 0 27), m 5 (.mov (.c q))]) <|
  .seq (.seq (.region [m 10 (.mov (t 1)), m 11 (.bin .neq .num (t 10) (.c (i 4))), m 12 (.mov (t 11)), g 13 12 true (.mov (t 1)), g 14 12 true (.bin .neq .num (t 13) (.c (i 16))), m 15 (.pick (t 12) (t 14) (.c (.bool false)))]) <|
  .cond (t 15) (.seq (.region [m 4 (.newRow 0 27), m 5 (.mov (.c (i 1)))]) <|
  .ret) (.skip)) <|
  .seq (.region [m 6 (.newRow 1 27)]) <|
  .seq (.block 0 <| .loop <| .seq (.seq (.region [m 16 (.mov (t 0)), m 17 (.len (t 16)), m 18 (.bin .gtr .num (t 17) (.c q))]) <|
  .cond (t 18) (.skip) (.exit 0)) <|
  .block 1 <| .seq (.region [m 20 (.mov (t 0)), m 21 (.mov (t 1)), m 22 (.call false 239 [(t 20), (t 21)]), m 19 (.mov (t 22)), m 23 (.extract 0 (t 19)), m 24 (.extract 1 (t 19)), m 25 (.extract 2 (t 19)), m 7 (.alloc 2 [o, o, o, o, o, o, o, o, q, o, o, o, o, o, o, o, o, o, o, o, o, o, o, o, o, q, q]), e (.store 27 (t 7) (t 23)), m 8 (.mov (t 24)), m 9 (.mov (t 25))]) <|
  .seq (.seq (.region [m 26 (.mov (t 9)), m 27 (.bin .neq .num (t 26) (.c q))]) <|
  .cond (t 27) (.seq (.region [m 28 (.mov (t 9)), m 4 (.newRow 0 27), m 5 (.mov (t 28))]) <|
  .ret) (.skip)) <|
  .dreg [(m 29 (.mov (t 6)), []), (m 30 (.load (some 27) (t 7)), []), (m 31 (.buildSlice 3 27 1 [o, o, o, o, o, o, o, o, q, o, o, o, o, o, o, o, o, o, o, o, o, o, o, o, o, q, q] [(0, (t 30))]), [1]), (m 32 (.append 4 27 48 (t 29) (t 31)), [0, 2]), (m 33 (.mov (t 0)), []), (m 34 (.mov (t 8)), []), (m 35 (.slice 1 (t 33) (some (t 34)) none), [4, 5]), (m 6 (.mov (t 32)), [3, 3, 0, 1, 2, 3]), (m 0 (.mov (t 35)), [6, 7, 0, 1, 2, 3, 4, 5, 6, 7])] [(2, 0), (1, 1), (2, 4), (2, 5), (2, 6), (0, 2), (0, 3), (2, 7), (2, 8)] [0, 0, 2, 7, 0, 0, 48, 15, 255]) <|
  .seq (.region [m 36 (.mov (t 6)), m 4 (.mov (t 36)), m 5 (.mov (.c q))]) <|
  .ret
def vf209 : VFun := ⟨37, 5, vb209, [.tmp 4, .tmp 5], false⟩
theorem cf209 : cFun Tryz.prog rawF false Tryz.f209 = some vf209 := by kernel_rfl
theorem T209 (h : HT σ args Post vb209 vf209 [dd, dd, dd, dd, dd]) (hl : args.length ≤ 37 := by exact Nat.le_of_ble_eq_true rfl) : T Tryz.prog 209 args σ Post := T.walk Tryz.func209 cf209 hl rfl h
@[reducible] def vb255 : VC :=
  .seq (.region [m 4 (.newRow 0 1), m 5 (.mov (.c q))]) <|
  .seq (.seq (.region [m 7 (.mov (t 0)), m 8 (.bin .lss .num (t 7) (.c q)), m 9 (.mov (t 8)), g 10 9 false (.mov (t 0)), g 11 9 false (.bin .gtr .num (t 10) (.c (i 1048575))), m 12 (.pick (t 9) (.c (.bool true)) (t 11))]) <|
  .cond (t 12) (.seq (.region [m 4 (.newRow 0 1), m 5 (.mov (.c (i 5)))]) <|
  .ret) (.skip)) <|
  .seq (.region [m 13 (.mov (t 0)), m 14 (.bin .shl .num (t 13) (.c (.int .u64 4))), m 6 (.mov (t 14))]) <|
  .seq (.seq (.region [m 15 (.mov (t 1))]) <|
  .cond (t 15) (.region [m 16 (.mov (t 6)), m 17 (.bin .or .num (t 16) (.c (i 1))), m 6 (.mov (t 17))]) (.skip)) <|
  .seq (.region [m 18 (.mov (t 6)), m 19 (.call false 126 [(.c .nils), (t 18), (.c (i 3))]), m 20 (.extract 0 (t 19)), m 21 (.extract 1 (t 19)), m 4 (.mov (t 20)), m 5 (.mov (t 21))]) <|
  .ret
def vf255 : VFun := ⟨22, 1, vb255, [.tmp 4, .tmp 5], false⟩
theorem cf255 : cFun Tryz.prog rawF false Tryz.f255 = some vf255 := by kernel_rfl
theorem T255 (h : HT σ args Post vb255 vf255 [dd]) (hl : args.length ≤ 22 := by exact Nat.le_of_ble_eq_true rfl) : T Tryz.prog 255 args σ Post := T.walk Tryz.func255 cf255 hl rfl h
@[reducible] def vb256 : VC :=
  .seq (.region [m 2 (.mov (.c q))]) <|
  .seq (.region [m 3 (.mov (t 0)), m 4 (.bin .add .num (t 3) (.c (i 7))), m 5 (.bin .quo .num (t 4) (.c (i 8))), m 2 (.mov (t 5))]) <|
  .ret
def vf256 : VFun := ⟨6, 0, vb256, [.tmp 2], false⟩
theorem cf256 : cFun Tryz.prog rawF false Tryz.f256 = some vf256 := by kernel_rfl
theorem T256 (h : HT σ args Post vb256 vf256 []) (hl : args.length ≤ 6 := by exact Nat.le_of_ble_eq_true rfl) : T Tryz.prog 256 args σ Post := T.walk Tryz.func256 cf256 hl rfl h
@[reducible] def vb56 : VC :=
  .seq (.region [m 2 (.mov (.c .nilp))]) <|
  .seq (.region [m 3 (.mov (t 0)), m 4 (.call false 111 [(t 3)]), m 5 (.build [.nils, (.bool false)] [(0, 1, (t 4))]), m 6 (.build [.nils, (.bool false)] [(0, 2, (t 5))]), m 7 (.box 0 (t 6)), m 2 (.mov (t 7))]) <|
  .ret
def vf56 : VFun := ⟨8, 1, vb56, [.tmp 2], false⟩
theorem cf56 : cFun Tryz.prog rawF false Tryz.f56 = some vf56 := by kernel_rfl
theorem T56 (h : vrun Tryz.prog σ.length vb56 (argsEnv args) (σ ++ [dd]) (vend vf56 Post)) (hl : args.length ≤ 8 := by exact Nat.le_of_ble_eq_true rfl) : T Tryz.prog 56 args σ Post := T.walkR Tryz.func56 cf56 hl rfl h
@[reducible] def vb58 : VC :=
  .seq (.region [m 4 (.mov (.c q))]) <|
  .seq (.seq (.region [m 8 (.mov (t 1)), m 9 (.bin .lss .num (t 8) (.c (i 1))), m 10 (.mov (t 9)), g 11 10 false (.mov (t 1)), g 12 10 false (.bin .gtr .num (t 11) (.c (i 4))), m 13 (.pick (t 10) (.c (.bool true)) (t 12))]) <|
  .cond (t 13) (.region [m 1 (.mov (.c (i (-1))))]) (.skip)) <|
  .seq (.region [m 5 (.mov (.c q))]) <|
  .seq (.seq (.region [m 14 (.mov (t 0)), m 15 (.nilCheck (t 14)), m 16 (.field 0 (t 15)), m 17 (.mov (t 1)), m 18 (.call false 112 [(t 16), (t 17)]), m 19 (.len (t 18)), m 20 (.mov (.c q))]) <|
  .block 0 <| .loop <| .seq (.region [m 21 (.bin .lss .num (t 20) (t 19))]) <|
  .seq (.cond (t 21) (.skip) (.exit 0)) <|
  .seq (.block 1 <| .seq (.region [m 22 (.index 1 (t 18) (t 20)), m 23 (.load none (t 22)), m 7 (.mov (t 23))]) <|
  .region [m 24 (.mov (t 5)), m 25 (.bin .shl .num (t 24) (.c (.int .u64 8))), m 26 (.mov (t 7)), m 27 (.convInt .i64 (t 26)), m 28 (.bin .or .num (t 25) (t 27)), m 5 (.mov (t 28))]) <|
  .region [m 29 (.bin .add .num (t 20) (.c (i 1))), m 20 (.mov (t 29))]) <|
  .seq (.region [m 30 (.mov (t 5)), m 4 (.mov (t 30))]) <|
  .ret
def vf58 : VFun := ⟨31, 0, vb58, [.tmp 4], false⟩
theorem cf58 : cFun Tryz.prog rawF false Tryz.f58 = some vf58 := by kernel_rfl
theorem T58 (h : HT σ args Post vb58 vf58 []) (hl : args.length ≤ 31 := by exact Nat.le_of_ble_eq_true rfl) : T Tryz.prog 58 args σ Post := T.walk Tryz.func58 cf58 hl rfl h
@[reducible] def vb221 : VC :=
  .seq (.region [m 4 (.mov (.c .nilp))]) <|
  .seq (.region [m 6 (.mov (t 0)), m 7 (.mov (t 1)), m 8 (.call false 150 [(t 6), (t 7)]), m 5 (.mov (t 8))]) <|
  .seq (.region [m 9 (.mov (t 5)), m 10 (.mov (t 0)), m 11 (.nilCheck (t 10)), m 12 (.field 0 (t 11)), m 13 (.field 1 (t 12)), m 14 (.load none (t 13)), m 15 (.build [.nils, (.bool false)] [(0, 1, (t 9)), (1, 1, (t 14))]), m 16 (.build [.nils, (.bool false)] [(0, 2, (t 15))]), m 17 (.box 0 (t 16)), m 4 (.mov (t 17))]) <|
  .ret
def vf221 : VFun := ⟨18, 1, vb221, [.tmp 4], false⟩
theorem cf221 : cFun Tryz.prog rawF false Tryz.f221 = some vf221 := by kernel_rfl
theorem T221 (h : vrun Tryz.prog σ.length vb221 (argsEnv args) (σ ++ [dd]) (vend vf221 Post)) (hl : args.length ≤ 18 := by exact Nat.le_of_ble_eq_true rfl) : T Tryz.prog 221 args σ Post := T.walkR Tryz.func221 cf221 hl rfl h
@[reducible] def vb222 : VC :=
  .seq (.region [m 2 (.mov (.c (.bool false)))]) <|
  .seq (.region [m 3 (.mov (t 0)), m 4 (.nilCheck (t 3)), m 5 (.field 1 (t 4)), m 6 (.load none (t 5)), m 2 (.mov (t 6))]) <|
  .ret
def vf222 : VFun := ⟨7, 0, vb222, [.tmp 2], false⟩
theorem cf222 : cFun Tryz.prog rawF false Tryz.f222 = some vf222 := by kernel_rfl
theorem T222 (h : HT σ args Post vb222 vf222 []) (hl : args.length ≤ 7 := by exact Nat.le_of_ble_eq_true rfl) : T Tryz.prog 222 args σ Post := T.walk Tryz.func222 cf222 hl rfl h
@[reducible] def vb257 : VC :=
  .seq (.region [m 2 (.mov (.c q)), m 3 (.mov (.c (.bool false))), m 4 (.mov (.c q))]) <|
  .seq (.region [m 6 (.mov (t 0)), m 7 (.call false 56 [(t 6)]), m 8 (.call false 58 [(t 7), (.c (i 3))]), m 5 (.mov (t 8))]) <|
  .seq (.seq (.region [m 9 (.mov (t 0)), m 10 (.len (t 9)), m 11 (.bin .neq .num (t 10) (.c (i 3))), m 12 (.mov (t 11)), g 13 12 false (.mov (t 5)), g 14 12 false (.bin .and .num (t 13) (.c (i 15))), g 15 12 false (.bin .gtr .num (t 14) (.c (i 1))), m 16 (.pick (t 12) (.c (.bool true)) (t 15))]) <|
  .cond (t 16) (.seq (.region [m 2 (.mov (.c q)), m 3 (.mov (.c (.bool false))), m 4 (.mov (.c (i 4)))]) <|
  .ret) (.skip)) <|
  .seq (.region [m 17 (.mov (t 5)), m 18 (.bin .shr .num (t 17) (.c (.int .u64 4))), m 19 (.mov (t 5)), m 20 (.bin .and .num (t 19) (.c (i 1))), m 21 (.bin .eql .num (t 20) (.c (i 1))), m 2 (.mov (t 18)), m 3 (.mov (t 21)), m 4 (.mov (.c q))]) <|
  .ret
def vf257 : VFun := ⟨22, 0, vb257, [.tmp 2, .tmp 3, .tmp 4], false⟩
theorem cf257 : cFun Tryz.prog rawF false Tryz.f257 = some vf257 := by kernel_rfl
theorem T257 (h : HT σ args Post vb257 vf257 []) (hl : args.length ≤ 22 := by exact Nat.le_of_ble_eq_true rfl) : T Tryz.prog 257 args σ Post := T.walk Tryz.func257 cf257 hl rfl h
@[reducible] def vb150 : VC :=
  .seq (.region [m 4 (.newRow 0 1)]) <|
  .seq (.region [m 5 (.mov (t 0)), m 6 (.nilCheck (t 5)), m 7 (.field 0 (t 6)), m 8 (.mov (t 1)), m 9 (.call false 112 [(t 7), (t 8)]), m 10 (.call false 111 [(t 9)]), m 4 (.mov (t 10))]) <|
  .ret
def vf150 : VFun := ⟨11, 1, vb150, [.tmp 4], false⟩
theorem cf150 : cFun Tryz.prog rawF false Tryz.f150 = some vf150 := by kernel_rfl
theorem T150 (h : HT σ args Post vb150 vf150 [dd]) (hl : args.length ≤ 11 := by exact Nat.le_of_ble_eq_true rfl) : T Tryz.prog 150 args σ Post := T.walk Tryz.func150 cf150 hl rfl h
@[reducible] def vb116 : VC :=
  .seq (.region [m 2 (.mov (.c q))]) <|
  .seq (.seq (.region [m 3 (.mov (t 0)), m 4 (.nilCheck (t 3)), m 5 (.field 1 (t 4)), m 6 (.load none (t 5))]) <|
  .cond (t 6) (.seq (.region [m 2 (.mov (.c q))]) <|
  .ret) (.skip)) <|
  .seq (.region [m 7 (.mov (t 0)), m 8 (.nilCheck (t 7)), m 9 (.field 0 (t 8)), m 10 (.load none (t 9)), m 11 (.len (t 10)), m 2 (.mov (t 11))]) <|
  .ret
def vf116 : VFun := ⟨12, 0, vb116, [.tmp 2], false⟩
theorem cf116 : cFun Tryz.prog rawF false Tryz.f116 = some vf116 := by kernel_rfl
theorem T116 (h : HT σ args Post vb116 vf116 []) (hl : args.length ≤ 12 := by exact Nat.le_of_ble_eq_true rfl) : T Tryz.prog 116 args σ Post := T.walk Tryz.func116 cf116 hl rfl h
@[reducible] def vb188 : VC :=
  .seq (.region [m 4 (.mov (.c (.bool false)))]) <|
  .seq (.region [m 5 (.mov (t 0)), m 6 (.b2s (t 5)), m 7 (.mov (t 1)), m 8 (.b2s (t 7)), m 9 (.bin .eql .num (t 6) (t 8)), m 4 (.mov (t 9))]) <|
  .ret
def vf188 : VFun := ⟨10, 0, vb188, [.tmp 4], false⟩
theorem cf188 : cFun Tryz.prog rawF false Tryz.f188 = some vf188 := by kernel_rfl
theorem T188 (h : HT σ args Post vb188 vf188 []) (hl : args.length ≤ 10 := by exact Nat.le_of_ble_eq_true rfl) : T Tryz.prog 188 args σ Post := T.walk Tryz.func188 cf188 hl rfl h
@[reducible] def vb261 : VC :=
  .seq (.region [m 1 (.box 0 (t 0)), m 2 (.mov (.c (.str [])))]) <|
  .seq (.seq (.region [m 3 (.load (some 18) (t 1)), m 4 (.call false 124 [(t 3)]), m 5 (.un .not (t 4))]) <|
  .cond (t 5) (.seq (.region [m 2 (.mov (.c (.str [])))]) <|
  .ret) (.skip)) <|
  .seq (.dreg [(m 6 (.field 0 (t 1)), []), (m 7 (.load (some 17) (t 6)), [0]), (m 8 (.call false 103 [(t 7)]), [1]), (m 9 (.bin .add .num (t 8) (.c (.str [47]))), [2]), (m 10 (.field 17 (t 1)), []), (m 11 (.load none (t 10)), [4]), (m 12 (.call false 104 [(t 11)]), [5, 2]), (m 13 (.bin .add .num (t 9) (t 12)), [3, 6]), (m 2 (.mov (t 13)), [7, 6, 0, 1, 2, 3, 4, 5, 6, 7])] [(1, 0), (1, 1), (1, 2), (2, 3), (1, 4), (1, 5), (1, 6), (2, 7), (2, 8)] [0, 1, 3, 7, 0, 16, 55, 127, 255]) <|
  .ret
def vf261 : VFun := ⟨14, 1, vb261, [.tmp 2], false⟩
theorem cf261 : cFun Tryz.prog rawF false Tryz.f261 = some vf261 := by kernel_rfl
theorem T261 (h : HT σ args Post vb261 vf261 [dd]) (hl : args.length ≤ 14 := by exact Nat.le_of_ble_eq_true rfl) : T Tryz.prog 261 args σ Post := T.walk Tryz.func261 cf261 hl rfl h
@[reducible] def vb72 : VC :=
  .seq (.region [m 2 (.mov (.c q))]) <|
  .seq (.region [m 3 (.mov (.c q))]) <|
  .seq (.seq (.region [m 6 (.mov (t 0)), m 7 (.len (t 6)), m 8 (.mov (.c q))]) <|
  .block 0 <| .loop <| .seq (.region [m 9 (.bin .lss .num (t 8) (t 7))]) <|
  .seq (.cond (t 9) (.skip) (.exit 0)) <|
  .seq (.block 1 <| .seq (.region [m 10 (.index 1 (t 6) (t 8)), m 11 (.load none (t 10)), m 5 (.mov (t 11))]) <|
  .seq (.region [m 12 (.mov (t 5)), m 13 (.mov (t 3)), m 14 (.bin .neq .num (t 12) (t 13))]) <|
  .cond (t 14) (.seq (.region [m 15 (.mov (t 5)), m 2 (.mov (t 15))]) <|
  .ret) (.skip)) <|
  .region [m 16 (.bin .add .num (t 8) (.c (i 1))), m 8 (.mov (t 16))]) <|
  .seq (.region [m 17 (.mov (t 3)), m 2 (.mov (t 17))]) <|
  .ret
def vf72 : VFun := ⟨18, 0, vb72, [.tmp 2], false⟩
theorem cf72 : cFun Tryz.prog rawF false Tryz.f72 = some vf72 := by kernel_rfl
theorem T72 (h : HT σ args Post vb72 vf72 []) (hl : args.length ≤ 18 := by exact Nat.le_of_ble_eq_true rfl) : T Tryz.prog 72 args σ Post := T.walk Tryz.func72 cf72 hl rfl h
@[reducible] def vb74 : VC :=
  .seq (.region [m 2 (.box 0 (t 0)), m 3 (.box 1 (t 1)), m 4 (.mov (.c q))]) <|
  .seq (.dreg [(m 5 (.field 0 (t 2)), []), (m 6 (.load none (t 5)), [0]), (m 7 (.field 0 (t 3)), []), (m 8 (.load none (t 7)), [2]), (m 9 (.call false 73 [(t 6), (t 8)]), [1, 3]), (m 10 (.field 1 (t 2)), []), (m 11 (.sliceArr 16 1 (t 10) none none), [5]), (m 12 (.field 1 (t 3)), []), (m 13 (.sliceArr 16 1 (t 12) none none), [7]), (m 14 (.call false 122 [(t 11), (t 13)]), [6, 8, 4]), (m 15 (.buildSlice 2 1 2 [q] [(0, (t 9)), (1, (t 14))]), [4, 9]), (m 16 (.call false 72 [(t 15)]), [10, 9]), (m 4 (.mov (t 16)), [11, 11, 0, 1, 2, 3, 4, 5, 6, 7, 8, 9, 10, 11])] [(1, 0), (1, 1), (1, 2), (1, 3), (1, 4), (1, 5), (1, 6), (1, 7), (1, 8), (1, 9), (0, 10), (1, 11), (2, 12)] [0, 1, 0, 4, 15, 0, 32, 0, 128, 511, 1023, 2047, 4095]) <|
  .ret
def vf74 : VFun := ⟨17, 3, vb74, [.tmp 4], false⟩
theorem cf74 : cFun Tryz.prog rawF false Tryz.f74 = some vf74 := by kernel_rfl
theorem T74 (h : HT σ args Post vb74 vf74 [dd, dd, dd]) (hl : args.length ≤ 17 := by exact Nat.le_of_ble_eq_true rfl) : T Tryz.prog 74 args σ Post := T.walk Tryz.func74 cf74 hl rfl h
@[reducible] def vb73 : VC :=
  .seq (.region [m 4 (.mov (.c q))]) <|
  .seq (.region [m 7 (.mov (t 0)), m 8 (.call false 121 [(t 7)]), m 5 (.mov (t 8))]) <|
  .seq (.region [m 9 (.mov (t 1)), m 10 (.call false 121 [(t 9)]), m 6 (.mov (t 10))]) <|
  .seq (.seq (.region [m 11 (.mov (t 5))]) <|
  .cond (t 11) (.seq (.seq (.region [m 12 (.mov (t 6))]) <|
  .cond (t 12) (.seq (.region [m 4 (.mov (.c q))]) <|
  .ret) (.skip)) <|
  .seq (.region [m 4 (.mov (.c (i (-1))))]) <|
  .ret) (.skip)) <|
  .seq (.seq (.region [m 13 (.mov (t 6))]) <|
  .cond (t 13) (.seq (.region [m 4 (.mov (.c (i 1)))]) <|
  .ret) (.skip)) <|
  .seq (.seq (.region [m 14 (.mov (t 0)), m 15 (.mov (t 1)), m 16 (.bin .lss .num (t 14) (t 15))]) <|
  .cond (t 16) (.seq (.region [m 4 (.mov (.c (i (-1))))]) <|
  .ret) (.skip)) <|
  .seq (.seq (.region [m 17 (.mov (t 0)), m 18 (.mov (t 1)), m 19 (.bin .gtr .num (t 17) (t 18))]) <|
  .cond (t 19) (.seq (.region [m 4 (.mov (.c (i 1)))]) <|
  .ret) (.skip)) <|
  .seq (.region [m 4 (.mov (.c q))]) <|
  .ret
def vf73 : VFun := ⟨20, 0, vb73, [.tmp 4], false⟩
theorem cf73 : cFun Tryz.prog rawF false Tryz.f73 = some vf73 := by kernel_rfl
theorem T73 (h : HT σ args Post vb73 vf73 []) (hl : args.length ≤ 20 := by exact Nat.le_of_ble_eq_true rfl) : T Tryz.prog 73 args σ Post := T.walk Tryz.func73 cf73 hl rfl h
@[reducible] def vb126 : VC :=
  .seq (.region [m 6 (.newRow 0 1), m 7 (.mov (.c q))]) <|
  .seq (.block 0 <| .seq (.region [m 11 (.mov (t 2)), m 12 (.bin .lss .num (t 11) (.c (i 1))), m 13 (.mov (t 12)), g 14 13 false (.mov (t 2)), g 15 13 false (.bin .gtr .num (t 14) (.c (i 4))), m 16 (.pick (t 13) (.c (.bool true)) (t 15)), m 10 (.mov (t 16))]) <|
  .cond (t 10) (.seq (.region [m 6 (.newRow 0 1), m 7 (.mov (.c (i 1)))]) <|
  .ret) (.seq (.region [m 18 (.mov (t 1)), m 19 (.bin .lss .num (t 18) (.c q)), m 20 (.mov (t 19)), g 21 20 false (.mov (t 1)), g 22 20 false (.mov (t 2)), g 23 20 false (.bin .mul .num (.c (i 8)) (t 22)), g 24 20 false (.bin .shr .num (t 21) (t 23)), g 25 20 false (.bin .neq .num (t 24) (.c q)), m 26 (.pick (t 20) (.c (.bool true)) (t 25)), m 17 (.mov (t 26))]) <|
  .cond (t 17) (.seq (.region [m 6 (.newRow 0 1), m 7 (.mov (.c (i 5)))]) <|
  .ret) (.skip))) <|
  .seq (.region [m 27 (.mov (t 0)), m 28 (.call false 111 [(t 27)]), m 8 (.mov (t 28))]) <|
  .seq (.seq (.region [m 29 (.mov (t 2)), m 30 (.bin .sub .num (t 29) (.c (i 1))), m 31 (.bin .mul .num (.c (i 8)) (t 30)), m 9 (.mov (t 31))]) <|
  .block 1 <| .loop <| .seq (.seq (.region [m 32 (.mov (t 9)), m 33 (.bin .geq .num (t 32) (.c q))]) <|
  .cond (t 33) (.skip) (.exit 1)) <|
  .seq (.block 2 <| .region [m 36 (.mov (t 8)), m 37 (.mov (t 1)), m 38 (.mov (t 9)), m 39 (.bin .shr .num (t 37) (t 38)), m 40 (.convInt .u8 (t 39)), m 41 (.buildSlice 1 1 1 [o] [(0, (t 40))]), m 42 (.append 2 1 1 (t 36) (t 41)), m 8 (.mov (t 42))]) <|
  .region [m 34 (.mov (t 9)), m 35 (.bin .sub .num (t 34) (.c (i 8))), m 9 (.mov (t 35))]) <|
  .seq (.region [m 43 (.mov (t 8)), m 6 (.mov (t 43)), m 7 (.mov (.c q))]) <|
  .ret
def vf126 : VFun := ⟨44, 3, vb126, [.tmp 6, .tmp 7], false⟩
theorem cf126 : cFun Tryz.prog rawF false Tryz.f126 = some vf126 := by kernel_rfl
theorem T126 (h : HT σ args Post vb126 vf126 [dd, dd, dd]) (hl : args.length ≤ 44 := by exact Nat.le_of_ble_eq_true rfl) : T Tryz.prog 126 args σ Post := T.walk Tryz.func126 cf126 hl rfl h
@[reducible] def vb57 : VC :=
  .seq (.region [m 1 (.box 0 (t 0)), m 2 (.newRow 1 1)]) <|
  .seq (.seq (.region [m 3 (.load (some 17) (t 1)), m 4 (.call false 54 [(t 3)]), m 5 (.un .not (t 4))]) <|
  .cond (t 5) (.seq (.region [m 2 (.newRow 1 1)]) <|
  .ret) (.skip)) <|
  .seq (.region [m 6 (.field 1 (t 1)), m 7 (.field 0 (t 1)), m 8 (.load none (t 7)), m 9 (.sliceArr 16 1 (t 6) none (some (t 8))), m 10 (.call false 111 [(t 9)]), m 2 (.mov (t 10))]) <|
  .ret
def vf57 : VFun := ⟨11, 2, vb57, [.tmp 2], false⟩
theorem cf57 : cFun Tryz.prog rawF false Tryz.f57 = some vf57 := by kernel_rfl
theorem T57 (h : HT σ args Post vb57 vf57 [dd, dd]) (hl : args.length ≤ 11 := by exact Nat.le_of_ble_eq_true rfl) : T Tryz.prog 57 args σ Post := T.walk Tryz.func57 cf57 hl rfl h
@[reducible] def vb122 : VC :=
  .seq (.region [m 4 (.mov (.c q))]) <|
  .seq (.region [m 5 (.mov (t 0)), m 6 (.mov (t 1)), m 7 (.call false 164 [(t 5), (t 6)]), m 4 (.mov (t 7))]) <|
  .ret
def vf122 : VFun := ⟨8, 0, vb122, [.tmp 4], false⟩
theorem cf122 : cFun Tryz.prog rawF false Tryz.f122 = some vf122 := by kernel_rfl
theorem T122 (h : HT σ args Post vb122 vf122 []) (hl : args.length ≤ 8 := by exact Nat.le_of_ble_eq_true rfl) : T Tryz.prog 122 args σ Post := T.walk Tryz.func122 cf122 hl rfl h
@[reducible] def vb103 : VC :=
  .seq (.region [m 1 (.box 0 (t 0)), m 2 (.mov (.c (.str [])))]) <|
  .seq (.seq (.region [m 6 (.load (some 17) (t 1)), m 7 (.call false 54 [(t 6)]), m 8 (.un .not (t 7))]) <|
  .cond (t 8) (.seq (.region [m 2 (.mov (.c (.str [])))]) <|
  .ret) (.skip)) <|
  .seq (.seq (.region [m 9 (.field 0 (t 1)), m 10 (.load none (t 9))]) <|
  .block 0 <| .seq (.region [m 12 (.bin .eql .num (t 10) (.c (i 4))), m 11 (.mov (t 12))]) <|
  .cond (t 11) (.seq (.region [m 3 (.newRow 1 1)]) <|
  .seq (.seq (.region [m 13 (.field 1 (t 1)), m 14 (.sliceArr 16 1 (t 13) none (some (.c (i 4)))), m 15 (.len (t 14)), m 16 (.mov (.c q))]) <|
  .block 1 <| .loop <| .seq (.region [m 17 (.bin .lss .num (t 16) (t 15))]) <|
  .seq (.cond (t 17) (.skip) (.exit 1)) <|
  .seq (.block 2 <| .seq (.region [m 18 (.index 1 (t 14) (t 16)), m 19 (.load none (t 18)), m 5 (.mov (t 19))]) <|
  .region [m 20 (.mov (t 3)), m 21 (.mov (t 5)), m 22 (.convInt .i64 (t 21)), m 23 (.call false 104 [(t 22)]), m 24 (.buildSlice 2 1 1 [(.str [])] [(0, (t 23))]), m 25 (.append 3 1 16 (t 20) (t 24)), m 3 (.mov (t 25))]) <|
  .region [m 26 (.bin .add .num (t 16) (.c (i 1))), m 16 (.mov (t 26))]) <|
  .seq (.region [m 27 (.mov (t 3)), m 28 (.call false 151 [(t 27), (.c (.str [46]))]), m 2 (.mov (t 28))]) <|
  .ret) (.seq (.region [m 30 (.bin .eql .num (t 10) (.c (i 16))), m 29 (.mov (t 30))]) <|
  .cond (t 29) (.seq (.region [m 31 (.load (some 17) (t 1)), m 32 (.call false 152 [(t 31)]), m 2 (.mov (t 32))]) <|
  .ret) (.skip))) <|
  .seq (.region [m 2 (.mov (.c (.str [])))]) <|
  .ret
def vf103 : VFun := ⟨33, 4, vb103, [.tmp 2], false⟩
theorem cf103 : cFun Tryz.prog rawF false Tryz.f103 = some vf103 := by kernel_rfl
theorem T103 (h : HT σ args Post vb103 vf103 [dd, dd, dd, dd]) (hl : args.length ≤ 33 := by exact Nat.le_of_ble_eq_true rfl) : T Tryz.prog 103 args σ Post := T.walk Tryz.func103 cf103 hl rfl h
@[reducible] def vb111 : VC :=
  .seq (.region [m 2 (.newRow 0 1)]) <|
  .seq (.seq (.region [m 3 (.mov (t 0)), m 4 (.bin .eql .slice (t 3) (.c .nils))]) <|
  .cond (t 4) (.seq (.region [m 2 (.newRow 0 1)]) <|
  .ret) (.skip)) <|
  .seq (.region [m 5 (.buildSlice 1 1 0 [o] []), m 6 (.mov (t 0)), m 7 (.append 2 1 1 (t 5) (t 6)), m 2 (.mov (t 7))]) <|
  .ret
def vf111 : VFun := ⟨8, 3, vb111, [.tmp 2], false⟩
theorem cf111 : cFun Tryz.prog rawF false Tryz.f111 = some vf111 := by kernel_rfl
theorem T111 (h : HT σ args Post vb111 vf111 [dd, dd, dd]) (hl : args.length ≤ 8 := by exact Nat.le_of_ble_eq_true rfl) : T Tryz.prog 111 args σ Post := T.walk Tryz.func111 cf111 hl rfl h
@[reducible] def vb112 : VC :=
  .seq (.region [m 4 (.newRow 0 1)]) <|
  .seq (.seq (.region [m 6 (.mov (t 0)), m 7 (.nilCheck (t 6)), m 8 (.field 1 (t 7)), m 9 (.load none (t 8)), m 10 (.mov (t 9)), g 11 10 false (.mov (t 1)), g 12 10 false (.bin .lss .num (t 11) (.c q)), m 13 (.pick (t 10) (.c (.bool true)) (t 12)), m 14 (.mov (t 13)), g 15 14 false (.mov (t 1)), g 16 14 false (.mov (t 0)), g 17 14 false (.nilCheck (t 16)), g 18 14 false (.field 0 (t 17)), g 19 14 false (.load none (t 18)), g 20 14 false (.len (t 19)), g 21 14 false (.bin .gtr .num (t 15) (t 20)), m 22 (.pick (t 14) (.c (.bool true)) (t 21))]) <|
  .cond (t 22) (.seq (.region [m 23 (.mov (t 0)), m 24 (.nilCheck (t 23)), m 25 (.field 1 (t 24)), e (.store 1 (t 25) (.c (.bool true)))]) <|
  .seq (.region [m 4 (.newRow 0 1)]) <|
  .ret) (.skip)) <|
  .seq (.region [m 26 (.mov (t 0)), m 27 (.nilCheck (t 26)), m 28 (.field 0 (t 27)), m 29 (.load none (t 28)), m 30 (.mov (t 1)), m 31 (.slice 1 (t 29) none (some (t 30))), m 5 (.mov (t 31))]) <|
  .seq (.region [m 32 (.mov (t 0)), m 33 (.mov (t 0)), m 34 (.nilCheck (t 33)), m 35 (.field 0 (t 34)), m 36 (.load none (t 35)), m 37 (.mov (t 1)), m 38 (.slice 1 (t 36) (some (t 37)) none), m 39 (.nilCheck (t 32)), m 40 (.field 0 (t 39)), e (.store 1 (t 40) (t 38))]) <|
  .seq (.region [m 41 (.mov (t 5)), m 4 (.mov (t 41))]) <|
  .ret
def vf112 : VFun := ⟨42, 1, vb112, [.tmp 4], false⟩
theorem cf112 : cFun Tryz.prog rawF false Tryz.f112 = some vf112 := by kernel_rfl
theorem T112 (h : HT σ args Post vb112 vf112 [dd]) (hl : args.length ≤ 42 := by exact Nat.le_of_ble_eq_true rfl) : T Tryz.prog 112 args σ Post := T.walk Tryz.func112 cf112 hl rfl h
@[reducible] def vb124 : VC :=
  .seq (.region [m 1 (.box 0 (t 0)), m 2 (.mov (.c (.bool false)))]) <|
  .seq (.region [m 6 (.field 0 (t 1)), m 7 (.load (some 17) (t 6)), m 8 (.field 17 (t 1)), m 9 (.load none (t 8)), m 10 (.call false 165 [(t 7), (t 9)]), m 5 (.mov (t 10)), m 11 (.extract 0 (t 5)), m 12 (.extract 1 (t 5)), m 3 (.alloc 1 [q, o, o, o, o, o, o, o, o, o, o, o, o, o, o, o, o, q]), e (.store 18 (t 3) (t 11)), m 4 (.mov (t 12))]) <|
  .seq (.region [m 13 (.mov (t 4)), m 14 (.bin .eql .num (t 13) (.c q)), m 15 (.mov (t 14)), g 16 15 true (.load (some 18) (t 3)), g 17 15 true (.load (some 18) (t 1)), g 18 15 true (.eqAgg [(.i .i64), (.i .u8), (.i .u8), (.i .u8), (.i .u8), (.i .u8), (.i .u8), (.i .u8), (.i .u8), (.i .u8), (.i .u8), (.i .u8), (.i .u8), (.i .u8), (.i .u8), (.i .u8), (.i .u8), (.i .i64)] false (t 16) (t 17)), m 19 (.pick (t 15) (t 18) (.c (.bool false))), m 2 (.mov (t 19))]) <|
  .ret
def vf124 : VFun := ⟨20, 2, vb124, [.tmp 2], false⟩
theorem cf124 : cFun Tryz.prog rawF false Tryz.f124 = some vf124 := by kernel_rfl
theorem T124 (h : HT σ args Post vb124 vf124 [dd, dd]) (hl : args.length ≤ 20 := by exact Nat.le_of_ble_eq_true rfl) : T Tryz.prog 124 args σ Post := T.walk Tryz.func124 cf124 hl rfl h
@[reducible] def vb121 : VC :=
  .seq (.region [m 2 (.mov (.c (.bool false)))]) <|
  .seq (.region [m 3 (.mov (t 0)), m 4 (.mov (t 0)), m 5 (.bin .neq .num (t 3) (t 4)), m 2 (.mov (t 5))]) <|
  .ret
def vf121 : VFun := ⟨6, 0, vb121, [.tmp 2], false⟩
theorem cf121 : cFun Tryz.prog rawF false Tryz.f121 = some vf121 := by kernel_rfl
theorem T121 (h : HT σ args Post vb121 vf121 []) (hl : args.length ≤ 6 := by exact Nat.le_of_ble_eq_true rfl) : T Tryz.prog 121 args σ Post := T.walk Tryz.func121 cf121 hl rfl h
@[reducible] def vb54 : VC :=
  .seq (.region [m 1 (.box 0 (t 0)), m 2 (.mov (.c (.bool false)))]) <|
  .seq (.seq (.region [m 3 (.field 0 (t 1)), m 4 (.load none (t 3))]) <|
  .block 0 <| .seq (.seq (.region [m 6 (.bin .eql .num (t 4) (.c q)), m 5 (.mov (t 6))]) <|
  .cond (t 5) (.skip) (.seq (.region [m 7 (.bin .eql .num (t 4) (.c (i 4))), m 5 (.mov (t 7))]) <|
  .cond (t 5) (.skip) (.region [m 8 (.bin .eql .num (t 4) (.c (i 16))), m 5 (.mov (t 8))]))) <|
  .cond (t 5) (.seq (.region [m 9 (.field 1 (t 1)), m 10 (.field 0 (t 1)), m 11 (.load none (t 10)), m 12 (.sliceArr 16 1 (t 9) (some (t 11)) none), m 13 (.call false 108 [(t 12), (.c (.str [0]))]), m 14 (.len (t 13)), m 15 (.bin .eql .num (t 14) (.c q)), m 2 (.mov (t 15))]) <|
  .ret) (.skip)) <|
  .seq (.region [m 2 (.mov (.c (.bool false)))]) <|
  .ret
def vf54 : VFun := ⟨16, 1, vb54, [.tmp 2], false⟩
theorem cf54 : cFun Tryz.prog rawF false Tryz.f54 = some vf54 := by kernel_rfl
theorem T54 (h : HT σ args Post vb54 vf54 [dd]) (hl : args.length ≤ 16 := by exact Nat.le_of_ble_eq_true rfl) : T Tryz.prog 54 args σ Post := T.walk Tryz.func54 cf54 hl rfl h
@[reducible] def vb65 : VC :=
  .seq (.region [m 1 (.box 0 (t 0)), m 2 (.mov (.c (.bool false)))]) <|
  .seq (.block 0 <| .seq (.region [m 4 (.load (some 17) (t 1)), m 5 (.call false 54 [(t 4)]), m 6 (.un .not (t 5)), m 3 (.mov (t 6))]) <|
  .cond (t 3) (.seq (.region [m 2 (.mov (.c (.bool false)))]) <|
  .ret) (.seq (.region [m 8 (.field 0 (t 1)), m 9 (.load none (t 8)), m 10 (.bin .eql .num (t 9) (.c (i 4))), m 7 (.mov (t 10))]) <|
  .cond (t 7) (.seq (.region [m 11 (.field 1 (t 1)), m 12 (.indexArr 16 1 (t 11) (.c q)), m 13 (.load none (t 12)), m 14 (.bin .shr .num (t 13) (.c (.int .u64 4))), m 15 (.bin .eql .num (t 14) (.c (b 14))), m 2 (.mov (t 15))]) <|
  .ret) (.skip))) <|
  .seq (.region [m 16 (.field 0 (t 1)), m 17 (.load none (t 16)), m 18 (.bin .eql .num (t 17) (.c (i 16))), m 19 (.mov (t 18)), g 20 19 true (.field 1 (t 1)), g 21 19 true (.indexArr 16 1 (t 20) (.c q)), g 22 19 true (.load none (t 21)), g 23 19 true (.bin .eql .num (t 22) (.c (b 255))), m 24 (.pick (t 19) (t 23) (.c (.bool false))), m 2 (.mov (t 24))]) <|
  .ret
def vf65 : VFun := ⟨25, 1, vb65, [.tmp 2], false⟩
theorem cf65 : cFun Tryz.prog rawF false Tryz.f65 = some vf65 := by kernel_rfl
theorem T65 (h : HT σ args Post vb65 vf65 [dd]) (hl : args.length ≤ 25 := by exact Nat.le_of_ble_eq_true rfl) : T Tryz.prog 65 args σ Post := T.walk Tryz.func65 cf65 hl rfl h
@[reducible] def vb164 : VC :=
  .seq (.region [m 4 (.mov (.c q))]) <|
  .seq (.region [m 5 (.mov (t 0)), m 6 (.mov (t 1)), m 7 (.ext 200 [(t 5), (t 6)]), m 4 (.mov (t 7))]) <|
  .ret
def vf164 : VFun := ⟨8, 0, vb164, [.tmp 4], false⟩
theorem cf164 : cFun Tryz.prog rawF false Tryz.f164 = some vf164 := by kernel_rfl
theorem T164 (h : HT σ args Post vb164 vf164 []) (hl : args.length ≤ 8 := by exact Nat.le_of_ble_eq_true rfl) : T Tryz.prog 164 args σ Post := T.walk Tryz.func164 cf164 hl rfl h
@[reducible] def vb148 : VC :=
  .seq (.region [m 2 (.alloc 0 [q, o, o, o, o, o, o, o, o, o, o, o, o, o, o, o, o]), m 3 (.mov (.c q))]) <|
  .seq (.seq (.region [m 5 (.mov (t 0)), m 6 (.len (t 5))]) <|
  .block 0 <| .seq (.seq (.region [m 8 (.bin .eql .num (t 6) (.c q)), m 7 (.mov (t 8))]) <|
  .cond (t 7) (.skip) (.seq (.region [m 9 (.bin .eql .num (t 6) (.c (i 4))), m 7 (.mov (t 9))]) <|
  .cond (t 7) (.skip) (.region [m 10 (.bin .eql .num (t 6) (.c (i 16))), m 7 (.mov (t 10))]))) <|
  .cond (t 7) (.seq (.region [m 11 (.mov (t 0)), m 12 (.len (t 11)), m 13 (.build [q, o, o, o, o, o, o, o, o, o, o, o, o, o, o, o, o] [(0, 1, (t 12))]), m 4 (.alloc 1 [q, o, o, o, o, o, o, o, o, o, o, o, o, o, o, o, o]), e (.store 17 (t 4) (t 13))]) <|
  .seq (.region [m 14 (.field 1 (t 4)), m 15 (.sliceArr 16 1 (t 14) none none), m 16 (.mov (t 0)), m 17 (.copyTo 1 (t 15) (t 16))]) <|
  .seq (.region [m 18 (.load (some 17) (t 4)), e (.store 17 (t 2) (t 18)), m 3 (.mov (.c q))]) <|
  .ret) (.skip)) <|
  .seq (.region [m 19 (.build [q, o, o, o, o, o, o, o, o, o, o, o, o, o, o, o, o] []), e (.store 17 (t 2) (t 19)), m 3 (.mov (.c (i 1)))]) <|
  .ret
def vf148 : VFun := ⟨20, 2, vb148, [.cell 2 (some 17), .tmp 3], false⟩
theorem cf148 : cFun Tryz.prog rawF false Tryz.f148 = some vf148 := by kernel_rfl
theorem T148 (h : HT σ args Post vb148 vf148 [dd, dd]) (hl : args.length ≤ 20 := by exact Nat.le_of_ble_eq_true rfl) : T Tryz.prog 148 args σ Post := T.walk Tryz.func148 cf148 hl rfl h
@[reducible] def vb152 : VC :=
  .seq (.region [m 1 (.box 0 (t 0)), m 2 (.mov (.c (.str [])))]) <|
  .seq (.region [m 6 (.load (some 17) (t 1)), m 7 (.call false 192 [(t 6)]), m 3 (.alloc 1 [q, q, q, q, q, q, q, q]), e (.store 8 (t 3) (t 7))]) <|
  .seq (.region [m 9 (.load (some 8) (t 3)), m 10 (.call false 193 [(t 9)]), m 8 (.mov (t 10)), m 11 (.extract 0 (t 8)), m 12 (.extract 1 (t 8)), m 4 (.mov (t 11)), m 5 (.mov (t 12))]) <|
  .seq (.seq (.region [m 13 (.mov (t 5)), m 14 (.bin .lss .num (t 13) (.c (i 2)))]) <|
  .cond (t 14) (.seq (.region [m 15 (.sliceArr 8 1 (t 3) none none), m 16 (.call false 194 [(t 15)]), m 2 (.mov (t 16))]) <|
  .ret) (.skip)) <|
  .seq (.dreg [(m 17 (.mov (t 4)), []), (m 18 (.sliceArr 8 1 (t 3) none (some (t 17))), [0]), (m 19 (.call false 194 [(t 18)]), [1]), (m 20 (.bin .add .num (t 19) (.c (.str [58, 58]))), [2]), (m 21 (.mov (t 4)), []), (m 22 (.mov (t 5)), []), (m 23 (.bin .add .num (t 21) (t 22)), [4, 5]), (m 24 (.sliceArr 8 1 (t 3) (some (t 23)) none), [6]), (m 25 (.call false 194 [(t 24)]), [7, 2]), (m 26 (.bin .add .num (t 20) (t 25)), [3, 8]), (m 2 (.mov (t 26)), [9, 8, 0, 1, 2, 3, 4, 5, 6, 7, 8, 9])] [(2, 0), (1, 1), (1, 2), (2, 3), (2, 4), (2, 5), (2, 6), (1, 7), (1, 8), (2, 9), (2, 10)] [0, 1, 3, 7, 0, 0, 48, 112, 247, 511, 1023]) <|
  .ret
def vf152 : VFun := ⟨27, 2, vb152, [.tmp 2], false⟩
theorem cf152 : cFun Tryz.prog rawF false Tryz.f152 = some vf152 := by kernel_rfl
theorem T152 (h : HT σ args Post vb152 vf152 [dd, dd]) (hl : args.length ≤ 27 := by exact Nat.le_of_ble_eq_true rfl) : T Tryz.prog 152 args σ Post := T.walk Tryz.func152 cf152 hl rfl h
@[reducible] def vb165 : VC :=
  .seq (.region [m 2 (.box 0 (t 0)), m 4 (.alloc 1 [q, o, o, o, o, o, o, o, o, o, o, o, o, o, o, o, o, q]), m 5 (.mov (.c q))]) <|
  .seq (.seq (.region [m 6 (.load (some 17) (t 2)), m 7 (.call false 54 [(t 6)]), m 8 (.un .not (t 7)), m 9 (.mov (t 8)), g 10 9 false (.field 0 (t 2)), g 11 9 false (.load none (t 10)), g 12 9 false (.bin .eql .num (t 11) (.c q)), m 13 (.pick (t 9) (.c (.bool true)) (t 12)), m 14 (.mov (t 13)), g 15 14 false (.mov (t 1)), g 16 14 false (.bin .lss .num (t 15) (.c q)), m 17 (.pick (t 14) (.c (.bool true)) (t 16)), m 18 (.mov (t 17)), g 19 18 false (.mov (t 1)), g 20 18 false (.field 0 (t 2)), g 21 18 false (.load none (t 20)), g 22 18 false (.bin .mul .num (.c (i 8)) (t 21)), g 23 18 false (.bin .gtr .num (t 19) (t 22)), m 24 (.pick (t 18) (.c (.bool true)) (t 23))]) <|
  .cond (t 24) (.seq (.region [m 25 (.build [q, o, o, o, o, o, o, o, o, o, o, o, o, o, o, o, o, q] []), e (.store 18 (t 4) (t 25)), m 5 (.mov (.c (i 1)))]) <|
  .ret) (.skip)) <|
  .seq (.region [m 26 (.load (some 17) (t 2)), m 27 (.mov (t 1)), m 28 (.call false 125 [(t 26), (t 27)]), m 29 (.mov (t 1)), m 30 (.build [q, o, o, o, o, o, o, o, o, o, o, o, o, o, o, o, o, q] [(0, 17, (t 28)), (17, 1, (t 29))]), e (.store 18 (t 4) (t 30)), m 5 (.mov (.c q))]) <|
  .ret
def vf165 : VFun := ⟨31, 2, vb165, [.cell 4 (some 18), .tmp 5], false⟩
theorem cf165 : cFun Tryz.prog rawF false Tryz.f165 = some vf165 := by kernel_rfl
theorem T165 (h : HT σ args Post vb165 vf165 [dd, dd]) (hl : args.length ≤ 31 := by exact Nat.le_of_ble_eq_true rfl) : T Tryz.prog 165 args σ Post := T.walk Tryz.func165 cf165 hl rfl h
@[reducible] def vb108 : VC :=
  .seq (.region [m 4 (.newRow 0 1)]) <|
  .seq (.seq (.region [m 7 (.mov (t 0)), m 8 (.len (t 7)), m 9 (.bin .eql .num (t 8) (.c q))]) <|
  .cond (t 9) (.seq (.region [m 4 (.newRow 0 1)]) <|
  .ret) (.skip)) <|
  .seq (.seq (.region [m 10 (.mov (t 1)), m 11 (.bin .eql .num (t 10) (.c (.str [])))]) <|
  .cond (t 11) (.seq (.region [m 12 (.mov (t 0)), m 4 (.mov (t 12))]) <|
  .ret) (.skip)) <|
  .seq (.seq (.region [m 13 (.mov (t 1)), m 14 (.lenStr (t 13)), m 15 (.bin .eql .num (t 14) (.c (i 1))), m 16 (.mov (t 15)), g 17 16 true (.mov (t 1)), g 18 16 true (.indexStr (t 17) (.c q)), g 19 16 true (.bin .lss .num (t 18) (.c (b 128))), m 20 (.pick (t 16) (t 19) (.c (.bool false)))]) <|
  .cond (t 20) (.seq (.dreg [(m 21 (.mov (t 0)), []), (m 22 (.mov (t 1)), []), (m 23 (.indexStr (t 22) (.c q)), [1]), (m 24 (.call false 157 [(t 21), (t 23)]), [0, 2]), (m 25 (.mov (t 1)), []), (m 26 (.indexStr (t 25) (.c q)), [4]), (m 27 (.call false 156 [(t 24), (t 26)]), [3, 5, 3]), (m 4 (.mov (t 27)), [6, 6, 0, 1, 2, 3, 4, 5, 6])] [(2, 0), (2, 1), (2, 2), (1, 3), (2, 4), (2, 5), (1, 6), (2, 7)] [0, 0, 2, 7, 0, 16, 63, 127]) <|
  .ret) (.skip)) <|
  .seq (.seq (.region [m 29 (.mov (t 1)), m 30 (.call false 158 [(t 29)]), m 28 (.mov (t 30)), m 31 (.extract 0 (t 28)), m 32 (.extract 1 (t 28)), m 5 (.alloc 1 (List.replicate 256 (.bool false))), e (.store 256 (t 5) (t 31)), m 6 (.mov (t 32))]) <|
  .seq (.region [m 33 (.mov (t 6))]) <|
  .cond (t 33) (.seq (.region [m 34 (.mov (t 0)), m 35 (.call false 160 [(t 34), (t 5)]), m 36 (.call false 159 [(t 35), (t 5)]), m 4 (.mov (t 36))]) <|
  .ret) (.skip)) <|
  .seq (.region [m 37 (.mov (t 0)), m 38 (.mov (t 1)), m 39 (.call false 162 [(t 37), (t 38)]), m 40 (.mov (t 1)), m 41 (.call false 161 [(t 39), (t 40)]), m 4 (.mov (t 41))]) <|
  .ret
def vf108 : VFun := ⟨42, 2, vb108, [.tmp 4], false⟩
theorem cf108 : cFun Tryz.prog rawF false Tryz.f108 = some vf108 := by kernel_rfl
theorem T108 (h : HT σ args Post vb108 vf108 [dd, dd]) (hl : args.length ≤ 42 := by exact Nat.le_of_ble_eq_true rfl) : T Tryz.prog 108 args σ Post := T.walk Tryz.func108 cf108 hl rfl h
@[reducible] def vb115 : VC :=
  .seq (.region [m 2 (.mov (.c q)), m 3 (.mov (.c (.bool false)))]) <|
  .seq (.seq (.region [m 4 (.mov (t 0))]) <|
  .block 0 <| .seq (.region [m 6 (.bin .eql .num (t 4) (.c q)), m 5 (.mov (t 6))]) <|
  .cond (t 5) (.seq (.region [m 2 (.mov (.c (i 2))), m 3 (.mov (.c (.bool true)))]) <|
  .ret) (.seq (.seq (.region [m 8 (.bin .eql .num (t 4) (.c (i 1))), m 7 (.mov (t 8))]) <|
  .cond (t 7) (.skip) (.region [m 9 (.bin .eql .num (t 4) (.c (i 2))), m 7 (.mov (t 9))])) <|
  .cond (t 7) (.seq (.region [m 2 (.mov (.c (i 4))), m 3 (.mov (.c (.bool true)))]) <|
  .ret) (.skip))) <|
  .seq (.region [m 2 (.mov (.c q)), m 3 (.mov (.c (.bool false)))]) <|
  .ret
def vf115 : VFun := ⟨10, 0, vb115, [.tmp 2, .tmp 3], false⟩
theorem cf115 : cFun Tryz.prog rawF false Tryz.f115 = some vf115 := by kernel_rfl
theorem T115 (h : HT σ args Post vb115 vf115 []) (hl : args.length ≤ 10 := by exact Nat.le_of_ble_eq_true rfl) : T Tryz.prog 115 args σ Post := T.walk Tryz.func115 cf115 hl rfl h
@[reducible] def vb192 : VC :=
  .seq (.region [m 1 (.box 0 (t 0)), m 2 (.alloc 1 [q, q, q, q, q, q, q, q])]) <|
  .seq (.seq (.region [m 4 (.mov (.c q))]) <|
  .block 0 <| .loop <| .seq (.region [m 5 (.bin .lss .num (t 4) (.c (i 8)))]) <|
  .seq (.cond (t 5) (.skip) (.exit 0)) <|
  .seq (.block 1 <| .seq (.region [m 6 (.mov (t 4)), m 3 (.mov (t 6))]) <|
  .dreg [(m 7 (.mov (t 3)), []), (m 8 (.mov (t 3)), []), (m 9 (.bin .mul .num (.c (i 2)) (t 8)), [1]), (m 10 (.field 1 (t 1)), []), (m 11 (.indexArr 16 1 (t 10) (t 9)), [3, 2]), (m 12 (.load none (t 11)), [4]), (m 13 (.convInt .i64 (t 12)), [5]), (m 14 (.bin .shl .num (t 13) (.c (.int .u64 8))), [6]), (m 15 (.mov (t 3)), []), (m 16 (.bin .mul .num (.c (i 2)) (t 15)), [8]), (m 17 (.bin .add .num (t 16) (.c (i 1))), [9]), (m 18 (.field 1 (t 1)), []), (m 19 (.indexArr 16 1 (t 18) (t 17)), [11, 10]), (m 20 (.load none (t 19)), [12]), (m 21 (.convInt .i64 (t 20)), [13]), (m 22 (.bin .or .num (t 14) (t 21)), [7, 14]), (m 23 (.indexArr 8 1 (t 2) (t 7)), [0, 0, 1, 2, 3, 4, 5, 6, 7, 8, 9, 10, 11, 12, 13, 14, 15]), (e (.store 1 (t 23) (t 22)), [16, 15, 0, 1, 2, 3, 4, 5, 6, 7, 8, 9, 10, 11, 12, 13, 14, 15])] [(2, 0), (2, 1), (2, 2), (1, 3), (1, 4), (1, 5), (2, 6), (2, 7), (2, 8), (2, 9), (2, 10), (1, 11), (1, 12), (1, 13), (2, 14), (2, 15), (1, 16), (0, 17)] [0, 0, 2, 0, 14, 30, 62, 126, 0, 256, 768, 0, 3840, 7936, 16128, 32766, 65535, 131071]) <|
  .region [m 24 (.bin .add .num (t 4) (.c (i 1))), m 4 (.mov (t 24))]) <|
  .seq (.region [m 25 (.load (some 8) (t 2)), e (.store 8 (t 2) (t 25))]) <|
  .ret
def vf192 : VFun := ⟨26, 2, vb192, [.cell 2 (some 8)], false⟩
theorem cf192 : cFun Tryz.prog rawF false Tryz.f192 = some vf192 := by kernel_rfl
theorem T192 (h : HT σ args Post vb192 vf192 [dd, dd]) (hl : args.length ≤ 26 := by exact Nat.le_of_ble_eq_true rfl) : T Tryz.prog 192 args σ Post := T.walk Tryz.func192 cf192 hl rfl h
@[reducible] def vb193 : VC :=
  .seq (.region [m 1 (.box 0 (t 0)), m 2 (.mov (.c q)), m 3 (.mov (.c q))]) <|
  .seq (.seq (.region [m 6 (.mov (.c q))]) <|
  .block 0 <| .loop <| .seq (.region [m 7 (.bin .lss .num (t 6) (.c (i 8)))]) <|
  .seq (.cond (t 7) (.skip) (.exit 0)) <|
  .seq (.block 1 <| .seq (.region [m 8 (.mov (t 6)), m 4 (.mov (t 8))]) <|
  .seq (.region [m 5 (.mov (.c q))]) <|
  .seq (.block 2 <| .loop <| .seq (.seq (.region [m 9 (.mov (t 4)), m 10 (.mov (t 5)), m 11 (.bin .add .num (t 9) (t 10)), m 12 (.bin .lss .num (t 11) (.c (i 8))), m 13 (.mov (t 12)), g 14 13 true (.mov (t 4)), g 15 13 true (.mov (t 5)), g 16 13 true (.bin .add .num (t 14) (t 15)), g 17 13 true (.indexArr 8 1 (t 1) (t 16)), g 18 13 true (.load none (t 17)), g 19 13 true (.bin .eql .num (t 18) (.c q)), m 20 (.pick (t 13) (t 19) (.c (.bool false)))]) <|
  .cond (t 20) (.skip) (.exit 2)) <|
  .block 3 <| .region [m 21 (.mov (t 5)), m 22 (.bin .add .num (t 21) (.c (i 1))), m 5 (.mov (t 22))]) <|
  .seq (.region [m 23 (.mov (t 5)), m 24 (.mov (t 3)), m 25 (.bin .gtr .num (t 23) (t 24))]) <|
  .cond (t 25) (.region [m 26 (.mov (t 4)), m 27 (.mov (t 5)), m 2 (.mov (t 26)), m 3 (.mov (t 27))]) (.skip)) <|
  .region [m 28 (.bin .add .num (t 6) (.c (i 1))), m 6 (.mov (t 28))]) <|
  .seq (.region [m 29 (.mov (t 2)), m 30 (.mov (t 3)), m 2 (.mov (t 29)), m 3 (.mov (t 30))]) <|
  .ret
def vf193 : VFun := ⟨31, 1, vb193, [.tmp 2, .tmp 3], false⟩
theorem cf193 : cFun Tryz.prog rawF false Tryz.f193 = some vf193 := by kernel_rfl
theorem T193 (h : HT σ args Post vb193 vf193 [dd]) (hl : args.length ≤ 31 := by exact Nat.le_of_ble_eq_true rfl) : T Tryz.prog 193 args σ Post := T.walk Tryz.func193 cf193 hl rfl h
@[reducible] def vb194 : VC :=
  .seq (.region [m 2 (.mov (.c (.str [])))]) <|
  .seq (.region [m 3 (.newRow 0 1)]) <|
  .seq (.seq (.region [m 6 (.mov (t 0)), m 7 (.len (t 6)), m 8 (.mov (.c q))]) <|
  .block 0 <| .loop <| .seq (.region [m 9 (.bin .lss .num (t 8) (t 7))]) <|
  .seq (.cond (t 9) (.skip) (.exit 0)) <|
  .seq (.block 1 <| .seq (.region [m 10 (.index 1 (t 6) (t 8)), m 11 (.load none (t 10)), m 5 (.mov (t 11))]) <|
  .region [m 12 (.mov (t 3)), m 13 (.mov (t 5)), m 14 (.call false 214 [(t 13), (.c (i 16))]), m 15 (.buildSlice 1 1 1 [(.str [])] [(0, (t 14))]), m 16 (.append 2 1 16 (t 12) (t 15)), m 3 (.mov (t 16))]) <|
  .region [m 17 (.bin .add .num (t 8) (.c (i 1))), m 8 (.mov (t 17))]) <|
  .seq (.region [m 18 (.mov (t 3)), m 19 (.call false 151 [(t 18), (.c (.str [58]))]), m 2 (.mov (t 19))]) <|
  .ret
def vf194 : VFun := ⟨20, 3, vb194, [.tmp 2], false⟩
theorem cf194 : cFun Tryz.prog rawF false Tryz.f194 = some vf194 := by kernel_rfl
theorem T194 (h : HT σ args Post vb194 vf194 [dd, dd, dd]) (hl : args.length ≤ 20 := by exact Nat.le_of_ble_eq_true rfl) : T Tryz.prog 194 args σ Post := T.walk Tryz.func194 cf194 hl rfl h
@[reducible] def vb125 : VC :=
  .seq (.region [m 2 (.box 0 (t 0)), m 4 (.alloc 1 [q, o, o, o, o, o, o, o, o, o, o, o, o, o, o, o, o])]) <|
  .seq (.seq (.region [m 6 (.mov (.c q))]) <|
  .block 0 <| .loop <| .seq (.region [m 7 (.bin .lss .num (t 6) (.c (i 16)))]) <|
  .seq (.cond (t 7) (.skip) (.exit 0)) <|
  .seq (.block 1 <| .seq (.region [m 8 (.mov (t 6)), m 5 (.mov (t 8))]) <|
  .dreg [(m 9 (.mov (t 5)), []), (m 10 (.field 1 (t 2)), []), (m 11 (.indexArr 16 1 (t 10) (t 9)), [1, 0]), (m 12 (.load none (t 11)), [2]), (m 13 (.mov (t 1)), []), (m 14 (.mov (t 5)), []), (m 15 (.bin .mul .num (.c (i 8)) (t 14)), [5]), (m 16 (.bin .sub .num (t 13) (t 15)), [4, 6]), (m 17 (.call false 166 [(t 16)]), [7]), (m 18 (.bin .and .num (t 12) (t 17)), [3, 8]), (m 19 (.field 1 (t 2)), []), (m 20 (.indexArr 16 1 (t 19) (t 9)), [10, 0, 0, 1, 2, 3, 4, 5, 6, 7, 8, 9]), (e (.store 1 (t 20) (t 18)), [11, 9, 8, 0, 1, 2, 3, 4, 5, 6, 7, 8, 9])] [(2, 0), (1, 1), (1, 2), (1, 3), (2, 4), (2, 5), (2, 6), (2, 7), (1, 8), (2, 9), (1, 10), (1, 11), (0, 12)] [0, 0, 3, 7, 0, 0, 32, 112, 240, 511, 0, 2047, 4095]) <|
  .region [m 21 (.bin .add .num (t 6) (.c (i 1))), m 6 (.mov (t 21))]) <|
  .seq (.region [m 22 (.load (some 17) (t 2)), e (.store 17 (t 4) (t 22))]) <|
  .ret
def vf125 : VFun := ⟨23, 2, vb125, [.cell 4 (some 17)], false⟩
theorem cf125 : cFun Tryz.prog rawF false Tryz.f125 = some vf125 := by kernel_rfl
theorem T125 (h : HT σ args Post vb125 vf125 [dd, dd]) (hl : args.length ≤ 23 := by exact Nat.le_of_ble_eq_true rfl) : T Tryz.prog 125 args σ Post := T.walk Tryz.func125 cf125 hl rfl h
@[reducible] def vb156 : VC :=
  .seq (.region [m 4 (.newRow 0 1)]) <|
  .seq (.block 0 <| .loop <| .seq (.seq (.region [m 5 (.mov (t 0)), m 6 (.len (t 5)), m 7 (.bin .gtr .num (t 6) (.c q)), m 8 (.mov (t 7)), g 9 8 true (.mov (t 0)), g 10 8 true (.index 1 (t 9) (.c q)), g 11 8 true (.load none (t 10)), g 12 8 true (.mov (t 1)), g 13 8 true (.bin .eql .num (t 11) (t 12)), m 14 (.pick (t 8) (t 13) (.c (.bool false)))]) <|
  .cond (t 14) (.skip) (.exit 0)) <|
  .block 1 <| .region [m 15 (.mov (t 0)), m 16 (.slice 1 (t 15) (some (.c (i 1))) none), m 0 (.mov (t 16))]) <|
  .seq (.seq (.region [m 17 (.mov (t 0)), m 18 (.len (t 17)), m 19 (.bin .eql .num (t 18) (.c q))]) <|
  .cond (t 19) (.seq (.region [m 4 (.newRow 0 1)]) <|
  .ret) (.skip)) <|
  .seq (.region [m 20 (.mov (t 0)), m 4 (.mov (t 20))]) <|
  .ret
def vf156 : VFun := ⟨21, 1, vb156, [.tmp 4], false⟩
theorem cf156 : cFun Tryz.prog rawF false Tryz.f156 = some vf156 := by kernel_rfl
theorem T156 (h : HT σ args Post vb156 vf156 [dd]) (hl : args.length ≤ 21 := by exact Nat.le_of_ble_eq_true rfl) : T Tryz.prog 156 args σ Post := T.walk Tryz.func156 cf156 hl rfl h
@[reducible] def vb157 : VC :=
  .seq (.region [m 4 (.newRow 0 1)]) <|
  .seq (.block 0 <| .loop <| .seq (.seq (.region [m 5 (.mov (t 0)), m 6 (.len (t 5)), m 7 (.bin .gtr .num (t 6) (.c q)), m 8 (.mov (t 7)), g 9 8 true (.mov (t 0)), g 10 8 true (.mov (t 0)), g 11 8 true (.len (t 10)), g 12 8 true (.bin .sub .num (t 11) (.c (i 1))), g 13 8 true (.index 1 (t 9) (t 12)), g 14 8 true (.load none (t 13)), g 15 8 true (.mov (t 1)), g 16 8 true (.bin .eql .num (t 14) (t 15)), m 17 (.pick (t 8) (t 16) (.c (.bool false)))]) <|
  .cond (t 17) (.skip) (.exit 0)) <|
  .block 1 <| .region [m 18 (.mov (t 0)), m 19 (.mov (t 0)), m 20 (.len (t 19)), m 21 (.bin .sub .num (t 20) (.c (i 1))), m 22 (.slice 1 (t 18) none (some (t 21))), m 0 (.mov (t 22))]) <|
  .seq (.region [m 23 (.mov (t 0)), m 4 (.mov (t 23))]) <|
  .ret
def vf157 : VFun := ⟨24, 1, vb157, [.tmp 4], false⟩
theorem cf157 : cFun Tryz.prog rawF false Tryz.f157 = some vf157 := by kernel_rfl
theorem T157 (h : HT σ args Post vb157 vf157 [dd]) (hl : args.length ≤ 24 := by exact Nat.le_of_ble_eq_true rfl) : T Tryz.prog 157 args σ Post := T.walk Tryz.func157 cf157 hl rfl h
@[reducible] def vb166 : VC :=
  .seq (.region [m 2 (.mov (.c o))]) <|
  .seq (.block 0 <| .seq (.region [m 4 (.mov (t 0)), m 5 (.bin .leq .num (t 4) (.c q)), m 3 (.mov (t 5))]) <|
  .cond (t 3) (.seq (.region [m 2 (.mov (.c o))]) <|
  .ret) (.seq (.region [m 7 (.mov (t 0)), m 8 (.bin .geq .num (t 7) (.c (i 8))), m 6 (.mov (t 8))]) <|
  .cond (t 6) (.seq (.region [m 2 (.mov (.c (b 255)))]) <|
  .ret) (.skip))) <|
  .seq (.region [m 9 (.mov (t 0)), m 10 (.bin .sub .num (.c (i 8)) (t 9)), m 11 (.bin .shl .num (.c (b 255)) (t 10)), m 2 (.mov (t 11))]) <|
  .ret
def vf166 : VFun := ⟨12, 0, vb166, [.tmp 2], false⟩
theorem cf166 : cFun Tryz.prog rawF false Tryz.f166 = some vf166 := by kernel_rfl
theorem T166 (h : HT σ args Post vb166 vf166 []) (hl : args.length ≤ 12 := by exact Nat.le_of_ble_eq_true rfl) : T Tryz.prog 166 args σ Post := T.walk Tryz.func166 cf166 hl rfl h
@[reducible] def vb31 : VC :=
  .seq (.region [m 8 (.alloc 0 [q, o, o, o, o, o, o, o, o, o, o, o, o, o, o, o, o])]) <|
  .seq (.region [m 9 (.mov (t 0)), m 10 (.mov (t 1)), m 11 (.mov (t 2)), m 12 (.mov (t 3)), m 13 (.build [o, o, o, o, o, o, o, o, o, o, o, o, o, o, o, o] [(0, 1, (t 9)), (1, 1, (t 10)), (2, 1, (t 11)), (3, 1, (t 12))]), m 14 (.build [q, o, o, o, o, o, o, o, o, o, o, o, o, o, o, o, o] [(0, 1, (.c (i 4))), (1, 16, (t 13))]), e (.store 17 (t 8) (t 14))]) <|
  .ret
def vf31 : VFun := ⟨15, 1, vb31, [.cell 8 (some 17)], false⟩
theorem cf31 : cFun Tryz.prog rawF false Tryz.f31 = some vf31 := by kernel_rfl
end Go.Proofs.YtjhmobdncjhcnaaGreatDoor
