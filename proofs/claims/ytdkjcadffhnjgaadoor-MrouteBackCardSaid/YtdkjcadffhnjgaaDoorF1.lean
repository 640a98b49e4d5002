/- Functions of the program, in the small language. -/
import Derived.Test.YtdkjcadffhnjgaaDoorVZ
namespace Go.Proofs.YtdkjcadffhnjgaaDoor
open Go Go.V D

/-- vinery/uroute.Bytes -/
@[reducible] def vb13 : VC :=
  .seq (.region [m 1 (.box 0 (t 0)), m 2 (.newRow 1 1), m 3 (.mov (.c (i 0)))]) <|
  .seq (.seq (.region [m 7 (.load (some 27) (t 1)), m 8 (.call false 19 [(t 7)]), m 9 (.un .not (t 8))]) <|
  .cond (t 9) (.seq (.region [m 2 (.newRow 1 1), m 3 (.mov (.c (i 1)))]) <|
  .ret) (.skip)) <|
  .seq (.region [m 11 (.field 26 (t 1)), m 12 (.load none (t 11)), m 13 (.call false 41 [(t 12), (.c (.bool true))]), m 10 (.mov (t 13)), m 14 (.extract 0 (t 10)), m 15 (.extract 1 (t 10)), m 4 (.mov (t 14)), m 5 (.mov (t 15))]) <|
  .seq (.region [m 16 (.field 8 (t 1)), m 17 (.field 17 (t 16)), m 18 (.load none (t 17)), m 19 (.bin .add .num (.c (i 88)) (t 18)), m 20 (.convInt .u8 (t 19)), m 21 (.buildSlice 2 1 1 [(b 0)] [(0, (t 20))]), m 22 (.mov (t 4)), m 23 (.append 3 1 1 (t 21) (t 22)), m 6 (.mov (t 23))]) <|
  .seq (.region [m 24 (.mov (t 6)), m 25 (.field 0 (t 1)), m 26 (.sliceArr 8 1 (t 25) none none), m 27 (.append 4 1 1 (t 24) (t 26)), m 6 (.mov (t 27))]) <|
  .seq (.region [m 28 (.mov (t 6)), m 29 (.field 8 (t 1)), m 30 (.field 0 (t 29)), m 31 (.field 1 (t 30)), m 32 (.field 8 (t 1)), m 33 (.field 17 (t 32)), m 34 (.load none (t 33)), m 35 (.call false 42 [(t 34)]), m 36 (.sliceArr 16 1 (t 31) none (some (t 35))), m 37 (.append 5 1 1 (t 28) (t 36)), m 2 (.mov (t 37)), m 3 (.mov (.c (i 0)))]) <|
  .ret
def vf13 : VFun := ⟨38, 6, vb13, [.tmp 2, .tmp 3], false⟩
theorem cf13 : cFun Go.Proofs.Tryd.prog rawF false Go.Proofs.Tryd.f13 = some vf13 := by kernel_rfl
theorem T13 {args : List PV} {σ : VHeap} {Post : KP} (h : belH σ.length σ → (∀ c, c ∈ args → bel σ.length c) → vrun Go.Proofs.Tryd.prog σ.length vb13 (argsEnv args) (σ ++ [dd, dd, dd, dd, dd, dd]) (vend vf13 (TrimP σ.length Post))) (hl : args.length ≤ 38 := by exact Nat.le_of_ble_eq_true rfl) : T Go.Proofs.Tryd.prog 13 args σ Post := T.walk Go.Proofs.Tryd.func13 cf13 hl rfl h

/-- vinery/uroute.Take -/
@[reducible] def vb14 : VC :=
  .seq (.region [m 4 (.alloc 0 [(b 0), (b 0), (b 0), (b 0), (b 0), (b 0), (b 0), (b 0), (i 0), (b 0), (b 0), (b 0), (b 0), (b 0), (b 0), (b 0), (b 0), (b 0), (b 0), (b 0), (b 0), (b 0), (b 0), (b 0), (b 0), (i 0), (i 0)]), m 5 (.mov (.c (i 0))), m 6 (.mov (.c (i 0)))]) <|
  .seq (.seq (.region [m 14 (.mov (t 1)), m 15 (.bin .neq .num (t 14) (.c (i 4))), m 16 (.mov (t 15)), g 17 16 true (.mov (t 1)), g 18 16 true (.bin .neq .num (t 17) (.c (i 16))), m 19 (.pick (t 16) (t 18) (.c (.bool false)))]) <|
  .cond (t 19) (.seq (.region [m 20 (.build [(b 0), (b 0), (b 0), (b 0), (b 0), (b 0), (b 0), (b 0), (i 0), (b 0), (b 0), (b 0), (b 0), (b 0), (b 0), (b 0), (b 0), (b 0), (b 0), (b 0), (b 0), (b 0), (b 0), (b 0), (b 0), (i 0), (i 0)] []), e (.store 27 (t 4) (t 20)), m 5 (.mov (.c (i 0))), m 6 (.mov (.c (i 1)))]) <|
  .ret) (.skip)) <|
  .seq (.region [m 21 (.mov (t 0)), m 22 (.call false 43 [(t 21)]), m 7 (.mov (t 22))]) <|
  .seq (.region [m 23 (.mov (t 7)), m 24 (.call false 44 [(t 23), (.c (i 1))]), m 8 (.mov (t 24))]) <|
  .seq (.region [m 25 (.mov (t 7)), m 26 (.mov (t 8)), m 27 (.call false 42 [(t 26)]), m 28 (.call false 45 [(t 25), (t 27)]), m 9 (.mov (t 28))]) <|
  .seq (.seq (.region [m 29 (.mov (t 7)), m 30 (.nilCheck (t 29)), m 31 (.field 0 (t 30)), m 32 (.call false 46 [(t 31)])]) <|
  .cond (t 32) (.seq (.region [m 33 (.build [(b 0), (b 0), (b 0), (b 0), (b 0), (b 0), (b 0), (b 0), (i 0), (b 0), (b 0), (b 0), (b 0), (b 0), (b 0), (b 0), (b 0), (b 0), (b 0), (b 0), (b 0), (b 0), (b 0), (b 0), (b 0), (i 0), (i 0)] []), e (.store 27 (t 4) (t 33)), m 5 (.mov (.c (i 0))), m 6 (.mov (.c (i 3)))]) <|
  .ret) (.skip)) <|
  .seq (.region [m 10 (.alloc 1 [(b 0), (b 0), (b 0), (b 0), (b 0), (b 0), (b 0), (b 0), (i 0), (b 0), (b 0), (b 0), (b 0), (b 0), (b 0), (b 0), (b 0), (b 0), (b 0), (b 0), (b 0), (b 0), (b 0), (b 0), (b 0), (i 0), (i 0)])]) <|
  .seq (.region [m 35 (.mov (t 9)), m 36 (.call false 48 [(t 35), (.c (i 3))]), m 37 (.call false 47 [(t 36)]), m 34 (.mov (t 37)), m 38 (.extract 0 (t 34)), m 39 (.extract 1 (t 34)), m 40 (.extract 2 (t 34)), m 41 (.field 26 (t 10)), e (.store 1 (t 41) (t 38))]) <|
  .seq (.dreg [(m 42 (.field 0 (t 10)), []), (m 43 (.sliceArr 8 1 (t 42) none none), [0]), (m 44 (.mov (t 9)), []), (m 45 (.call false 48 [(t 44), (.c (i 8))]), [2]), (m 46 (.copyTo 1 (t 43) (t 45)), [1, 3, 3])] [(2, 0), (2, 1), (2, 2), (0, 3), (0, 4)] [0, 1, 0, 4, 15]) <|
  .seq (.region [m 47 (.mov (t 1)), m 48 (.build [(i 0), (b 0), (b 0), (b 0), (b 0), (b 0), (b 0), (b 0), (b 0), (b 0), (b 0), (b 0), (b 0), (b 0), (b 0), (b 0), (b 0)] [(0, 1, (t 47))]), m 49 (.mov (t 8)), m 50 (.bin .sub .num (t 49) (.c (i 88))), m 51 (.build [(i 0), (b 0), (b 0), (b 0), (b 0), (b 0), (b 0), (b 0), (b 0), (b 0), (b 0), (b 0), (b 0), (b 0), (b 0), (b 0), (b 0), (i 0)] [(0, 17, (t 48)), (17, 1, (t 50))]), m 52 (.field 8 (t 10)), e (.store 18 (t 52) (t 51))]) <|
  .seq (.dreg [(m 53 (.field 8 (t 10)), []), (m 54 (.field 0 (t 53)), [0]), (m 55 (.field 1 (t 54)), [1]), (m 56 (.sliceArr 16 1 (t 55) none none), [2]), (m 57 (.mov (t 9)), []), (m 58 (.mov (t 9)), []), (m 59 (.nilCheck (t 58)), [5]), (m 60 (.field 0 (t 59)), [6]), (m 61 (.call false 49 [(t 60)]), [7]), (m 62 (.call false 48 [(t 57), (t 61)]), [4, 8, 8]), (m 63 (.copyTo 1 (t 56) (t 62)), [3, 9, 9])] [(2, 0), (2, 1), (2, 2), (2, 3), (2, 4), (2, 5), (1, 6), (1, 7), (0, 8), (0, 9), (0, 10)] [0, 1, 3, 7, 0, 0, 32, 96, 224, 496, 1023]) <|
  .seq (.region [m 64 (.mov (t 8)), m 65 (.call false 42 [(t 64)]), m 66 (.bin .add .num (.c (i 1)) (t 65)), m 11 (.mov (t 66))]) <|
  .seq (.seq (.region [m 68 (.load (some 27) (t 10)), m 69 (.call false 13 [(t 68)]), m 67 (.mov (t 69)), m 70 (.extract 0 (t 67)), m 71 (.extract 1 (t 67)), m 12 (.mov (t 70)), m 13 (.mov (t 71))]) <|
  .seq (.region [m 72 (.mov (t 13)), m 73 (.bin .neq .num (t 72) (.c (i 0))), m 74 (.mov (t 73)), g 75 74 false (.mov (t 12)), g 76 74 false (.mov (t 0)), g 77 74 false (.mov (t 11)), g 78 74 false (.slice 1 (t 76) none (some (t 77))), g 79 74 false (.call false 50 [(t 75), (t 78)]), g 80 74 false (.un .not (t 79)), m 81 (.pick (t 74) (.c (.bool true)) (t 80))]) <|
  .cond (t 81) (.seq (.region [m 82 (.build [(b 0), (b 0), (b 0), (b 0), (b 0), (b 0), (b 0), (b 0), (i 0), (b 0), (b 0), (b 0), (b 0), (b 0), (b 0), (b 0), (b 0), (b 0), (b 0), (b 0), (b 0), (b 0), (b 0), (b 0), (b 0), (i 0), (i 0)] []), e (.store 27 (t 4) (t 82)), m 5 (.mov (.c (i 0))), m 6 (.mov (.c (i 4)))]) <|
  .ret) (.skip)) <|
  .seq (.region [m 83 (.load (some 27) (t 10)), m 84 (.mov (t 11)), e (.store 27 (t 4) (t 83)), m 5 (.mov (t 84)), m 6 (.mov (.c (i 0)))]) <|
  .ret
def vf14 : VFun := ⟨85, 2, vb14, [.cell 4 (some 27), .tmp 5, .tmp 6], false⟩
theorem cf14 : cFun Go.Proofs.Tryd.prog rawF false Go.Proofs.Tryd.f14 = some vf14 := by kernel_rfl
theorem T14 {args : List PV} {σ : VHeap} {Post : KP} (h : belH σ.length σ → (∀ c, c ∈ args → bel σ.length c) → vrun Go.Proofs.Tryd.prog σ.length vb14 (argsEnv args) (σ ++ [dd, dd]) (vend vf14 (TrimP σ.length Post))) (hl : args.length ≤ 85 := by exact Nat.le_of_ble_eq_true rfl) : T Go.Proofs.Tryd.prog 14 args σ Post := T.walk Go.Proofs.Tryd.func14 cf14 hl rfl h

/-- vinery/vineryref08.Bytes -/
@[reducible] def vb15 : VC :=
  .seq (.region [m 1 (.box 0 (t 0)), m 2 (.newRow 1 1), m 3 (.mov (.c (i 0)))]) <|
  .seq (.region [m 8 (.load (some 27) (t 1)), m 9 (.call false 20 [(t 8)]), m 4 (.mov (t 9))]) <|
  .seq (.seq (.region [m 10 (.mov (t 4)), m 11 (.un .not (t 10))]) <|
  .cond (t 11) (.seq (.region [m 2 (.newRow 1 1), m 3 (.mov (.c (i 1)))]) <|
  .ret) (.skip)) <|
  .seq (.region [m 13 (.field 26 (t 1)), m 14 (.load none (t 13)), m 15 (.call false 51 [(t 14), (.c (.bool true))]), m 12 (.mov (t 15)), m 16 (.extract 0 (t 12)), m 17 (.extract 1 (t 12)), m 5 (.mov (t 16)), m 6 (.mov (t 17))]) <|
  .seq (.region [m 18 (.field 8 (t 1)), m 19 (.field 17 (t 18)), m 20 (.load none (t 19)), m 21 (.bin .add .num (.c (i 88)) (t 20)), m 22 (.convInt .u8 (t 21)), m 23 (.buildSlice 2 1 1 [(b 0)] [(0, (t 22))]), m 24 (.mov (t 5)), m 25 (.append 3 1 1 (t 23) (t 24)), m 7 (.mov (t 25))]) <|
  .seq (.region [m 26 (.mov (t 7)), m 27 (.field 0 (t 1)), m 28 (.sliceArr 8 1 (t 27) none none), m 29 (.append 4 1 1 (t 26) (t 28)), m 7 (.mov (t 29))]) <|
  .seq (.region [m 30 (.mov (t 7)), m 31 (.field 8 (t 1)), m 32 (.field 0 (t 31)), m 33 (.field 1 (t 32)), m 34 (.field 8 (t 1)), m 35 (.field 17 (t 34)), m 36 (.load none (t 35)), m 37 (.bin .add .num (t 36) (.c (i 7))), m 38 (.bin .quo .num (t 37) (.c (i 8))), m 39 (.sliceArr 16 1 (t 33) none (some (t 38))), m 40 (.append 5 1 1 (t 30) (t 39)), m 2 (.mov (t 40)), m 3 (.mov (.c (i 0)))]) <|
  .ret
def vf15 : VFun := ⟨41, 6, vb15, [.tmp 2, .tmp 3], false⟩
theorem cf15 : cFun Go.Proofs.Tryd.prog rawF false Go.Proofs.Tryd.f15 = some vf15 := by kernel_rfl
theorem T15 {args : List PV} {σ : VHeap} {Post : KP} (h : belH σ.length σ → (∀ c, c ∈ args → bel σ.length c) → vrun Go.Proofs.Tryd.prog σ.length vb15 (argsEnv args) (σ ++ [dd, dd, dd, dd, dd, dd]) (vend vf15 (TrimP σ.length Post))) (hl : args.length ≤ 41 := by exact Nat.le_of_ble_eq_true rfl) : T Go.Proofs.Tryd.prog 15 args σ Post := T.walk Go.Proofs.Tryd.func15 cf15 hl rfl h

/-- vinery/vineryref08.Take -/
@[reducible] def vb16 : VC :=
  .seq (.region [m 4 (.alloc 0 [(b 0), (b 0), (b 0), (b 0), (b 0), (b 0), (b 0), (b 0), (i 0), (b 0), (b 0), (b 0), (b 0), (b 0), (b 0), (b 0), (b 0), (b 0), (b 0), (b 0), (b 0), (b 0), (b 0), (b 0), (b 0), (i 0), (i 0)]), m 5 (.mov (.c (i 0))), m 6 (.mov (.c (i 0)))]) <|
  .seq (.seq (.region [m 16 (.mov (t 1)), m 17 (.bin .neq .num (t 16) (.c (i 4))), m 18 (.mov (t 17)), g 19 18 true (.mov (t 1)), g 20 18 true (.bin .neq .num (t 19) (.c (i 16))), m 21 (.pick (t 18) (t 20) (.c (.bool false)))]) <|
  .cond (t 21) (.seq (.region [m 22 (.build [(b 0), (b 0), (b 0), (b 0), (b 0), (b 0), (b 0), (b 0), (i 0), (b 0), (b 0), (b 0), (b 0), (b 0), (b 0), (b 0), (b 0), (b 0), (b 0), (b 0), (b 0), (b 0), (b 0), (b 0), (b 0), (i 0), (i 0)] []), e (.store 27 (t 4) (t 22)), m 5 (.mov (.c (i 0))), m 6 (.mov (.c (i 1)))]) <|
  .ret) (.skip)) <|
  .seq (.seq (.region [m 23 (.mov (t 0)), m 24 (.len (t 23)), m 25 (.bin .eql .num (t 24) (.c (i 0))), m 26 (.mov (t 25)), g 27 26 false (.mov (t 0)), g 28 26 false (.len (t 27)), g 29 26 false (.bin .sub .num (t 28) (.c (i 1))), g 30 26 false (.mov (t 0)), g 31 26 false (.index 1 (t 30) (.c (i 0))), g 32 26 false (.load none (t 31)), g 33 26 false (.convInt .i64 (t 32)), g 34 26 false (.bin .add .num (t 33) (.c (i 7))), g 35 26 false (.bin .quo .num (t 34) (.c (i 8))), g 36 26 false (.bin .lss .num (t 29) (t 35)), m 37 (.pick (t 26) (.c (.bool true)) (t 36))]) <|
  .cond (t 37) (.seq (.region [m 38 (.build [(b 0), (b 0), (b 0), (b 0), (b 0), (b 0), (b 0), (b 0), (i 0), (b 0), (b 0), (b 0), (b 0), (b 0), (b 0), (b 0), (b 0), (b 0), (b 0), (b 0), (b 0), (b 0), (b 0), (b 0), (b 0), (i 0), (i 0)] []), e (.store 27 (t 4) (t 38)), m 5 (.mov (.c (i 0))), m 6 (.mov (.c (i 3)))]) <|
  .ret) (.skip)) <|
  .seq (.region [m 39 (.mov (t 0)), m 40 (.index 1 (t 39) (.c (i 0))), m 41 (.load none (t 40)), m 42 (.convInt .i64 (t 41)), m 43 (.bin .add .num (t 42) (.c (i 7))), m 44 (.bin .quo .num (t 43) (.c (i 8))), m 45 (.bin .add .num (.c (i 1)) (t 44)), m 7 (.mov (t 45))]) <|
  .seq (.region [m 46 (.mov (t 0)), m 47 (.index 1 (t 46) (.c (i 0))), m 48 (.load none (t 47)), m 49 (.convInt .i64 (t 48)), m 50 (.bin .sub .num (t 49) (.c (i 88))), m 8 (.mov (t 50))]) <|
  .seq (.seq (.region [m 51 (.mov (t 8)), m 52 (.bin .lss .num (t 51) (.c (i 0))), m 53 (.mov (t 52)), g 54 53 false (.mov (t 8)), g 55 53 false (.mov (t 1)), g 56 53 false (.bin .mul .num (.c (i 8)) (t 55)), g 57 53 false (.bin .gtr .num (t 54) (t 56)), m 58 (.pick (t 53) (.c (.bool true)) (t 57))]) <|
  .cond (t 58) (.seq (.region [m 59 (.build [(b 0), (b 0), (b 0), (b 0), (b 0), (b 0), (b 0), (b 0), (i 0), (b 0), (b 0), (b 0), (b 0), (b 0), (b 0), (b 0), (b 0), (b 0), (b 0), (b 0), (b 0), (b 0), (b 0), (b 0), (b 0), (i 0), (i 0)] []), e (.store 27 (t 4) (t 59)), m 5 (.mov (.c (i 0))), m 6 (.mov (.c (i 4)))]) <|
  .ret) (.skip)) <|
  .seq (.region [m 60 (.mov (t 0)), m 61 (.slice 1 (t 60) (some (.c (i 4))) (some (.c (i 12)))), m 62 (.call false 52 [(t 61)]), m 63 (.build [(b 0), (b 0), (b 0), (b 0), (b 0), (b 0), (b 0), (b 0), (i 0), (b 0), (b 0), (b 0), (b 0), (b 0), (b 0), (b 0), (b 0), (b 0), (b 0), (b 0), (b 0), (b 0), (b 0), (b 0), (b 0), (i 0), (i 0)] [(0, 8, (t 62))]), m 9 (.alloc 1 [(b 0), (b 0), (b 0), (b 0), (b 0), (b 0), (b 0), (b 0), (i 0), (b 0), (b 0), (b 0), (b 0), (b 0), (b 0), (b 0), (b 0), (b 0), (b 0), (b 0), (b 0), (b 0), (b 0), (b 0), (b 0), (i 0), (i 0)]), e (.store 27 (t 9) (t 63))]) <|
  .seq (.region [m 65 (.mov (t 0)), m 66 (.slice 1 (t 65) (some (.c (i 1))) (some (.c (i 4)))), m 67 (.call false 53 [(t 66)]), m 64 (.mov (t 67)), m 68 (.extract 0 (t 64)), m 69 (.extract 1 (t 64)), m 70 (.extract 2 (t 64)), m 10 (.mov (t 68)), m 11 (.mov (t 69)), m 12 (.mov (t 70))]) <|
  .seq (.region [m 71 (.mov (t 10)), m 72 (.field 26 (t 9)), e (.store 1 (t 72) (t 71))]) <|
  .seq (.region [m 73 (.mov (t 1)), m 74 (.build [(i 0), (b 0), (b 0), (b 0), (b 0), (b 0), (b 0), (b 0), (b 0), (b 0), (b 0), (b 0), (b 0), (b 0), (b 0), (b 0), (b 0)] [(0, 1, (t 73))]), m 75 (.mov (t 8)), m 76 (.build [(i 0), (b 0), (b 0), (b 0), (b 0), (b 0), (b 0), (b 0), (b 0), (b 0), (b 0), (b 0), (b 0), (b 0), (b 0), (b 0), (b 0), (i 0)] [(0, 17, (t 74)), (17, 1, (t 75))]), m 77 (.field 8 (t 9)), e (.store 18 (t 77) (t 76))]) <|
  .seq (.seq (.region [m 13 (.mov (.c (i 12)))]) <|
  .block 0 <| .loop <| .seq (.seq (.region [m 78 (.mov (t 13)), m 79 (.mov (t 7)), m 80 (.bin .lss .num (t 78) (t 79))]) <|
  .cond (t 80) (.skip) (.exit 0)) <|
  .seq (.block 1 <| .region [m 83 (.mov (t 13)), m 84 (.bin .sub .num (t 83) (.c (i 12))), m 85 (.mov (t 0)), m 86 (.mov (t 13)), m 87 (.index 1 (t 85) (t 86)), m 88 (.load none (t 87)), m 89 (.field 8 (t 9)), m 90 (.field 0 (t 89)), m 91 (.field 1 (t 90)), m 92 (.indexArr 16 1 (t 91) (t 84)), e (.store 1 (t 92) (t 88))]) <|
  .region [m 81 (.mov (t 13)), m 82 (.bin .add .num (t 81) (.c (i 1))), m 13 (.mov (t 82))]) <|
  .seq (.region [m 94 (.load (some 27) (t 9)), m 95 (.call false 15 [(t 94)]), m 93 (.mov (t 95)), m 96 (.extract 0 (t 93)), m 97 (.extract 1 (t 93)), m 14 (.mov (t 96)), m 15 (.mov (t 97))]) <|
  .seq (.seq (.dreg [(m 98 (.mov (t 12)), []), (m 99 (.bin .neq .num (t 98) (.c (i 0))), [0]), (m 100 (.mov (t 99)), [1]), (g 101 100 false (.mov (t 15)), [2]), (g 102 100 false (.bin .neq .num (t 101) (.c (i 0))), [3, 2]), (m 103 (.pick (t 100) (.c (.bool true)) (t 102)), [2, 4]), (m 104 (.mov (t 103)), [5, 2]), (g 105 104 false (.mov (t 14)), [6]), (g 106 104 false (.b2s (t 105)), [7, 6]), (g 107 104 false (.mov (t 0)), [6]), (g 108 104 false (.mov (t 7)), [6]), (g 109 104 false (.slice 1 (t 107) none (some (t 108))), [9, 10, 6]), (g 110 104 false (.b2s (t 109)), [11, 6]), (g 111 104 false (.bin .neq .num (t 106) (t 110)), [8, 12, 6]), (m 112 (.pick (t 104) (.c (.bool true)) (t 111)), [6, 13])] [(2, 0), (2, 1), (2, 2), (2, 3), (2, 4), (2, 5), (2, 6), (2, 7), (1, 8), (2, 9), (2, 10), (1, 11), (1, 12), (2, 13), (2, 14)] [0, 1, 3, 7, 15, 31, 63, 127, 255, 127, 127, 1663, 3711, 8191, 16383]) <|
  .cond (t 112) (.seq (.region [m 113 (.build [(b 0), (b 0), (b 0), (b 0), (b 0), (b 0), (b 0), (b 0), (i 0), (b 0), (b 0), (b 0), (b 0), (b 0), (b 0), (b 0), (b 0), (b 0), (b 0), (b 0), (b 0), (b 0), (b 0), (b 0), (b 0), (i 0), (i 0)] []), e (.store 27 (t 4) (t 113)), m 5 (.mov (.c (i 0))), m 6 (.mov (.c (i 4)))]) <|
  .ret) (.skip)) <|
  .seq (.region [m 114 (.load (some 27) (t 9)), m 115 (.mov (t 7)), e (.store 27 (t 4) (t 114)), m 5 (.mov (t 115)), m 6 (.mov (.c (i 0)))]) <|
  .ret
def vf16 : VFun := ⟨116, 2, vb16, [.cell 4 (some 27), .tmp 5, .tmp 6], false⟩
theorem cf16 : cFun Go.Proofs.Tryd.prog rawF false Go.Proofs.Tryd.f16 = some vf16 := by kernel_rfl
theorem T16 {args : List PV} {σ : VHeap} {Post : KP} (h : belH σ.length σ → (∀ c, c ∈ args → bel σ.length c) → vrun Go.Proofs.Tryd.prog σ.length vb16 (argsEnv args) (σ ++ [dd, dd]) (vend vf16 (TrimP σ.length Post))) (hl : args.length ≤ 116 := by exact Nat.le_of_ble_eq_true rfl) : T Go.Proofs.Tryd.prog 16 args σ Post := T.walk Go.Proofs.Tryd.func16 cf16 hl rfl h

/-- vinery/uroute.Right -/
@[reducible] def vb19 : VC :=
  .seq (.region [m 1 (.box 0 (t 0)), m 2 (.mov (.c (.bool false)))]) <|
  .seq (.region [m 3 (.field 8 (t 1)), m 4 (.load (some 18) (t 3)), m 5 (.call false 54 [(t 4)]), m 6 (.bin .neq .num (t 5) (.c (.str []))), m 7 (.mov (t 6)), g 8 7 true (.field 26 (t 1)), g 9 7 true (.load none (t 8)), g 10 7 true (.bin .geq .num (t 9) (.c (i 0))), m 11 (.pick (t 7) (t 10) (.c (.bool false))), m 12 (.mov (t 11)), g 13 12 true (.field 26 (t 1)), g 14 12 true (.load none (t 13)), g 15 12 true (.bin .leq .num (t 14) (.c (i 1048575))), m 16 (.pick (t 12) (t 15) (.c (.bool false))), m 2 (.mov (t 16))]) <|
  .ret
def vf19 : VFun := ⟨17, 1, vb19, [.tmp 2], false⟩
theorem cf19 : cFun Go.Proofs.Tryd.prog rawF false Go.Proofs.Tryd.f19 = some vf19 := by kernel_rfl
theorem T19 {args : List PV} {σ : VHeap} {Post : KP} (h : belH σ.length σ → (∀ c, c ∈ args → bel σ.length c) → vrun Go.Proofs.Tryd.prog σ.length vb19 (argsEnv args) (σ ++ [dd]) (vend vf19 (TrimP σ.length Post))) (hl : args.length ≤ 17 := by exact Nat.le_of_ble_eq_true rfl) : T Go.Proofs.Tryd.prog 19 args σ Post := T.walk Go.Proofs.Tryd.func19 cf19 hl rfl h

/-- vinery/vineryref08.Right -/
@[reducible] def vb20 : VC :=
  .seq (.region [m 1 (.box 0 (t 0)), m 2 (.mov (.c (.bool false)))]) <|
  .seq (.region [m 4 (.field 8 (t 1)), m 5 (.load (some 18) (t 4)), m 6 (.call false 55 [(t 5)]), m 3 (.mov (t 6))]) <|
  .seq (.region [m 7 (.mov (t 3)), m 8 (.mov (t 7)), g 9 8 true (.field 26 (t 1)), g 10 8 true (.load none (t 9)), g 11 8 true (.bin .geq .num (t 10) (.c (i 0))), m 12 (.pick (t 8) (t 11) (.c (.bool false))), m 13 (.mov (t 12)), g 14 13 true (.field 26 (t 1)), g 15 13 true (.load none (t 14)), g 16 13 true (.bin .leq .num (t 15) (.c (i 1048575))), m 17 (.pick (t 13) (t 16) (.c (.bool false))), m 2 (.mov (t 17))]) <|
  .ret
def vf20 : VFun := ⟨18, 1, vb20, [.tmp 2], false⟩
theorem cf20 : cFun Go.Proofs.Tryd.prog rawF false Go.Proofs.Tryd.f20 = some vf20 := by kernel_rfl
theorem T20 {args : List PV} {σ : VHeap} {Post : KP} (h : belH σ.length σ → (∀ c, c ∈ args → bel σ.length c) → vrun Go.Proofs.Tryd.prog σ.length vb20 (argsEnv args) (σ ++ [dd]) (vend vf20 (TrimP σ.length Post))) (hl : args.length ≤ 18 := by exact Nat.le_of_ble_eq_true rfl) : T Go.Proofs.Tryd.prog 20 args σ Post := T.walk Go.Proofs.Tryd.func20 cf20 hl rfl h

/-- vinery/uroute.Row -/
@[reducible] def vb21 : VC :=
  .seq (.region [m 2 (.newRow 0 1), m 3 (.mov (.c (i 0)))]) <|
  .seq (.region [m 4 (.newRow 1 1)]) <|
  .seq (.seq (.region [m 9 (.mov (t 0)), m 10 (.len (t 9)), m 11 (.mov (.c (i 0)))]) <|
  .block 0 <| .loop <| .seq (.region [m 12 (.bin .lss .num (t 11) (t 10))]) <|
  .seq (.cond (t 12) (.skip) (.exit 0)) <|
  .seq (.block 1 <| .seq (.region [m 13 (.index 27 (t 9) (t 11)), m 14 (.load (some 27) (t 13)), m 6 (.alloc 2 [(b 0), (b 0), (b 0), (b 0), (b 0), (b 0), (b 0), (b 0), (i 0), (b 0), (b 0), (b 0), (b 0), (b 0), (b 0), (b 0), (b 0), (b 0), (b 0), (b 0), (b 0), (b 0), (b 0), (b 0), (b 0), (i 0), (i 0)]), e (.store 27 (t 6) (t 14))]) <|
  .seq (.region [m 16 (.load (some 27) (t 6)), m 17 (.call false 13 [(t 16)]), m 15 (.mov (t 17)), m 18 (.extract 0 (t 15)), m 19 (.extract 1 (t 15)), m 7 (.mov (t 18)), m 8 (.mov (t 19))]) <|
  .seq (.seq (.region [m 20 (.mov (t 8)), m 21 (.bin .neq .num (t 20) (.c (i 0)))]) <|
  .cond (t 21) (.seq (.region [m 22 (.mov (t 8)), m 2 (.newRow 0 1), m 3 (.mov (t 22))]) <|
  .ret) (.skip)) <|
  .region [m 23 (.mov (t 4)), m 24 (.mov (t 7)), m 25 (.append 3 1 1 (t 23) (t 24)), m 4 (.mov (t 25))]) <|
  .region [m 26 (.bin .add .num (t 11) (.c (i 1))), m 11 (.mov (t 26))]) <|
  .seq (.region [m 27 (.mov (t 4)), m 2 (.mov (t 27)), m 3 (.mov (.c (i 0)))]) <|
  .ret
def vf21 : VFun := ⟨28, 4, vb21, [.tmp 2, .tmp 3], false⟩
theorem cf21 : cFun Go.Proofs.Tryd.prog rawF false Go.Proofs.Tryd.f21 = some vf21 := by kernel_rfl
theorem T21 {args : List PV} {σ : VHeap} {Post : KP} (h : belH σ.length σ → (∀ c, c ∈ args → bel σ.length c) → vrun Go.Proofs.Tryd.prog σ.length vb21 (argsEnv args) (σ ++ [dd, dd, dd, dd]) (vend vf21 (TrimP σ.length Post))) (hl : args.length ≤ 28 := by exact Nat.le_of_ble_eq_true rfl) : T Go.Proofs.Tryd.prog 21 args σ Post := T.walk Go.Proofs.Tryd.func21 cf21 hl rfl h

/-- vinery/uroute.ReadRow -/
@[reducible] def vb22 : VC :=
  .seq (.region [m 4 (.newRow 0 27), m 5 (.mov (.c (i 0)))]) <|
  .seq (.seq (.region [m 10 (.mov (t 1)), m 11 (.bin .neq .num (t 10) (.c (i 4))), m 12 (.mov (t 11)), g 13 12 true (.mov (t 1)), g 14 12 true (.bin .neq .num (t 13) (.c (i 16))), m 15 (.pick (t 12) (t 14) (.c (.bool false)))]) <|
  .cond (t 15) (.seq (.region [m 4 (.newRow 0 27), m 5 (.mov (.c (i 1)))]) <|
  .ret) (.skip)) <|
  .seq (.region [m 6 (.newRow 1 27)]) <|
  .seq (.block 0 <| .loop <| .seq (.seq (.region [m 16 (.mov (t 0)), m 17 (.len (t 16)), m 18 (.bin .gtr .num (t 17) (.c (i 0)))]) <|
  .cond (t 18) (.skip) (.exit 0)) <|
  .block 1 <| .seq (.region [m 20 (.mov (t 0)), m 21 (.mov (t 1)), m 22 (.call false 14 [(t 20), (t 21)]), m 19 (.mov (t 22)), m 23 (.extract 0 (t 19)), m 24 (.extract 1 (t 19)), m 25 (.extract 2 (t 19)), m 7 (.alloc 2 [(b 0), (b 0), (b 0), (b 0), (b 0), (b 0), (b 0), (b 0), (i 0), (b 0), (b 0), (b 0), (b 0), (b 0), (b 0), (b 0), (b 0), (b 0), (b 0), (b 0), (b 0), (b 0), (b 0), (b 0), (b 0), (i 0), (i 0)]), e (.store 27 (t 7) (t 23)), m 8 (.mov (t 24)), m 9 (.mov (t 25))]) <|
  .seq (.seq (.region [m 26 (.mov (t 9)), m 27 (.bin .neq .num (t 26) (.c (i 0)))]) <|
  .cond (t 27) (.seq (.region [m 28 (.mov (t 9)), m 4 (.newRow 0 27), m 5 (.mov (t 28))]) <|
  .ret) (.skip)) <|
  .dreg [(m 29 (.mov (t 6)), []), (m 30 (.load (some 27) (t 7)), []), (m 31 (.buildSlice 3 27 1 [(b 0), (b 0), (b 0), (b 0), (b 0), (b 0), (b 0), (b 0), (i 0), (b 0), (b 0), (b 0), (b 0), (b 0), (b 0), (b 0), (b 0), (b 0), (b 0), (b 0), (b 0), (b 0), (b 0), (b 0), (b 0), (i 0), (i 0)] [(0, (t 30))]), [1]), (m 32 (.append 4 27 48 (t 29) (t 31)), [0, 2]), (m 33 (.mov (t 0)), []), (m 34 (.mov (t 8)), []), (m 35 (.slice 1 (t 33) (some (t 34)) none), [4, 5]), (m 6 (.mov (t 32)), [3, 3, 0, 1, 2, 3]), (m 0 (.mov (t 35)), [6, 7, 0, 1, 2, 3, 4, 5, 6, 7])] [(2, 0), (1, 1), (2, 4), (2, 5), (2, 6), (0, 2), (0, 3), (2, 7), (2, 8)] [0, 0, 2, 7, 0, 0, 48, 15, 255]) <|
  .seq (.region [m 36 (.mov (t 6)), m 4 (.mov (t 36)), m 5 (.mov (.c (i 0)))]) <|
  .ret
def vf22 : VFun := ⟨37, 5, vb22, [.tmp 4, .tmp 5], false⟩
theorem cf22 : cFun Go.Proofs.Tryd.prog rawF false Go.Proofs.Tryd.f22 = some vf22 := by kernel_rfl
theorem T22 {args : List PV} {σ : VHeap} {Post : KP} (h : belH σ.length σ → (∀ c, c ∈ args → bel σ.length c) → vrun Go.Proofs.Tryd.prog σ.length vb22 (argsEnv args) (σ ++ [dd, dd, dd, dd, dd]) (vend vf22 (TrimP σ.length Post))) (hl : args.length ≤ 37 := by exact Nat.le_of_ble_eq_true rfl) : T Go.Proofs.Tryd.prog 22 args σ Post := T.walk Go.Proofs.Tryd.func22 cf22 hl rfl h

/-- vinery/vineryref08.Row -/
@[reducible] def vb23 : VC :=
  .seq (.region [m 2 (.newRow 0 1), m 3 (.mov (.c (i 0)))]) <|
  .seq (.region [m 4 (.newRow 1 1)]) <|
  .seq (.seq (.region [m 5 (.mov (.c (i 0)))]) <|
  .block 0 <| .loop <| .seq (.seq (.region [m 8 (.mov (t 5)), m 9 (.mov (t 0)), m 10 (.len (t 9)), m 11 (.bin .lss .num (t 8) (t 10))]) <|
  .cond (t 11) (.skip) (.exit 0)) <|
  .seq (.block 1 <| .seq (.region [m 15 (.mov (t 0)), m 16 (.mov (t 5)), m 17 (.index 27 (t 15) (t 16)), m 18 (.load (some 27) (t 17)), m 19 (.call false 15 [(t 18)]), m 14 (.mov (t 19)), m 20 (.extract 0 (t 14)), m 21 (.extract 1 (t 14)), m 6 (.mov (t 20)), m 7 (.mov (t 21))]) <|
  .seq (.seq (.region [m 22 (.mov (t 7)), m 23 (.bin .neq .num (t 22) (.c (i 0)))]) <|
  .cond (t 23) (.seq (.region [m 24 (.mov (t 7)), m 2 (.newRow 0 1), m 3 (.mov (t 24))]) <|
  .ret) (.skip)) <|
  .region [m 25 (.mov (t 4)), m 26 (.mov (t 6)), m 27 (.append 2 1 1 (t 25) (t 26)), m 4 (.mov (t 27))]) <|
  .region [m 12 (.mov (t 5)), m 13 (.bin .add .num (t 12) (.c (i 1))), m 5 (.mov (t 13))]) <|
  .seq (.region [m 28 (.mov (t 4)), m 2 (.mov (t 28)), m 3 (.mov (.c (i 0)))]) <|
  .ret
def vf23 : VFun := ⟨29, 3, vb23, [.tmp 2, .tmp 3], false⟩
theorem cf23 : cFun Go.Proofs.Tryd.prog rawF false Go.Proofs.Tryd.f23 = some vf23 := by kernel_rfl
theorem T23 {args : List PV} {σ : VHeap} {Post : KP} (h : belH σ.length σ → (∀ c, c ∈ args → bel σ.length c) → vrun Go.Proofs.Tryd.prog σ.length vb23 (argsEnv args) (σ ++ [dd, dd, dd]) (vend vf23 (TrimP σ.length Post))) (hl : args.length ≤ 29 := by exact Nat.le_of_ble_eq_true rfl) : T Go.Proofs.Tryd.prog 23 args σ Post := T.walk Go.Proofs.Tryd.func23 cf23 hl rfl h

/-- vinery/vineryref08.ReadRow -/
@[reducible] def vb24 : VC :=
  .seq (.region [m 4 (.newRow 0 27), m 5 (.mov (.c (i 0)))]) <|
  .seq (.seq (.region [m 11 (.mov (t 1)), m 12 (.bin .neq .num (t 11) (.c (i 4))), m 13 (.mov (t 12)), g 14 13 true (.mov (t 1)), g 15 13 true (.bin .neq .num (t 14) (.c (i 16))), m 16 (.pick (t 13) (t 15) (.c (.bool false)))]) <|
  .cond (t 16) (.seq (.region [m 4 (.newRow 0 27), m 5 (.mov (.c (i 1)))]) <|
  .ret) (.skip)) <|
  .seq (.region [m 6 (.newRow 1 27)]) <|
  .seq (.seq (.region [m 7 (.mov (.c (i 0)))]) <|
  .block 0 <| .loop <| .seq (.seq (.region [m 17 (.mov (t 7)), m 18 (.mov (t 0)), m 19 (.len (t 18)), m 20 (.bin .lss .num (t 17) (t 19))]) <|
  .cond (t 20) (.skip) (.exit 0)) <|
  .block 1 <| .seq (.region [m 22 (.mov (t 0)), m 23 (.mov (t 7)), m 24 (.slice 1 (t 22) (some (t 23)) none), m 25 (.mov (t 1)), m 26 (.call false 16 [(t 24), (t 25)]), m 21 (.mov (t 26)), m 27 (.extract 0 (t 21)), m 28 (.extract 1 (t 21)), m 29 (.extract 2 (t 21)), m 8 (.alloc 2 [(b 0), (b 0), (b 0), (b 0), (b 0), (b 0), (b 0), (b 0), (i 0), (b 0), (b 0), (b 0), (b 0), (b 0), (b 0), (b 0), (b 0), (b 0), (b 0), (b 0), (b 0), (b 0), (b 0), (b 0), (b 0), (i 0), (i 0)]), e (.store 27 (t 8) (t 27)), m 9 (.mov (t 28)), m 10 (.mov (t 29))]) <|
  .seq (.seq (.region [m 30 (.mov (t 10)), m 31 (.bin .neq .num (t 30) (.c (i 0)))]) <|
  .cond (t 31) (.seq (.region [m 32 (.mov (t 10)), m 4 (.newRow 0 27), m 5 (.mov (t 32))]) <|
  .ret) (.skip)) <|
  .seq (.region [m 33 (.mov (t 6)), m 34 (.load (some 27) (t 8)), m 35 (.buildSlice 3 27 1 [(b 0), (b 0), (b 0), (b 0), (b 0), (b 0), (b 0), (b 0), (i 0), (b 0), (b 0), (b 0), (b 0), (b 0), (b 0), (b 0), (b 0), (b 0), (b 0), (b 0), (b 0), (b 0), (b 0), (b 0), (b 0), (i 0), (i 0)] [(0, (t 34))]), m 36 (.append 4 27 48 (t 33) (t 35)), m 6 (.mov (t 36))]) <|
  .region [m 37 (.mov (t 7)), m 38 (.mov (t 9)), m 39 (.bin .add .num (t 37) (t 38)), m 7 (.mov (t 39))]) <|
  .seq (.region [m 40 (.mov (t 6)), m 4 (.mov (t 40)), m 5 (.mov (.c (i 0)))]) <|
  .ret
def vf24 : VFun := ⟨41, 5, vb24, [.tmp 4, .tmp 5], false⟩
theorem cf24 : cFun Go.Proofs.Tryd.prog rawF false Go.Proofs.Tryd.f24 = some vf24 := by kernel_rfl
theorem T24 {args : List PV} {σ : VHeap} {Post : KP} (h : belH σ.length σ → (∀ c, c ∈ args → bel σ.length c) → vrun Go.Proofs.Tryd.prog σ.length vb24 (argsEnv args) (σ ++ [dd, dd, dd, dd, dd]) (vend vf24 (TrimP σ.length Post))) (hl : args.length ≤ 41 := by exact Nat.le_of_ble_eq_true rfl) : T Go.Proofs.Tryd.prog 24 args σ Post := T.walk Go.Proofs.Tryd.func24 cf24 hl rfl h

/-- vinery/vineryref08.Equal -/
@[reducible] def vb25 : VC :=
  .seq (.region [m 4 (.mov (.c (.bool false)))]) <|
  .seq (.seq (.region [m 6 (.mov (t 0)), m 7 (.len (t 6)), m 8 (.mov (t 1)), m 9 (.len (t 8)), m 10 (.bin .neq .num (t 7) (t 9))]) <|
  .cond (t 10) (.seq (.region [m 4 (.mov (.c (.bool false)))]) <|
  .ret) (.skip)) <|
  .seq (.seq (.region [m 5 (.mov (.c (i 0)))]) <|
  .block 0 <| .loop <| .seq (.seq (.region [m 11 (.mov (t 5)), m 12 (.mov (t 0)), m 13 (.len (t 12)), m 14 (.bin .lss .num (t 11) (t 13))]) <|
  .cond (t 14) (.skip) (.exit 0)) <|
  .seq (.block 1 <| .seq (.dreg [(m 17 (.mov (t 0)), []), (m 18 (.mov (t 5)), []), (m 19 (.index 27 (t 17) (t 18)), [0, 1]), (m 20 (.load (some 27) (t 19)), [2]), (m 21 (.mov (t 1)), []), (m 22 (.mov (t 5)), []), (m 23 (.index 27 (t 21) (t 22)), [4, 5]), (m 24 (.load (some 27) (t 23)), [6]), (m 25 (.eqAgg [(.i .u8), (.i .u8), (.i .u8), (.i .u8), (.i .u8), (.i .u8), (.i .u8), (.i .u8), (.i .i64), (.i .u8), (.i .u8), (.i .u8), (.i .u8), (.i .u8), (.i .u8), (.i .u8), (.i .u8), (.i .u8), (.i .u8), (.i .u8), (.i .u8), (.i .u8), (.i .u8), (.i .u8), (.i .u8), (.i .i64), (.i .i64)] true (t 20) (t 24)), [3, 7])] [(2, 0), (2, 1), (1, 2), (1, 3), (2, 4), (2, 5), (1, 6), (1, 7), (2, 8)] [0, 0, 3, 7, 0, 0, 48, 112, 255]) <|
  .cond (t 25) (.seq (.region [m 4 (.mov (.c (.bool false)))]) <|
  .ret) (.skip)) <|
  .region [m 15 (.mov (t 5)), m 16 (.bin .add .num (t 15) (.c (i 1))), m 5 (.mov (t 16))]) <|
  .seq (.region [m 4 (.mov (.c (.bool true)))]) <|
  .ret
def vf25 : VFun := ⟨26, 0, vb25, [.tmp 4], false⟩
theorem cf25 : cFun Go.Proofs.Tryd.prog rawF false Go.Proofs.Tryd.f25 = some vf25 := by kernel_rfl
theorem T25 {args : List PV} {σ : VHeap} {Post : KP} (h : belH σ.length σ → (∀ c, c ∈ args → bel σ.length c) → vrun Go.Proofs.Tryd.prog σ.length vb25 (argsEnv args) (σ ++ []) (vend vf25 (TrimP σ.length Post))) (hl : args.length ≤ 26 := by exact Nat.le_of_ble_eq_true rfl) : T Go.Proofs.Tryd.prog 25 args σ Post := T.walk Go.Proofs.Tryd.func25 cf25 hl rfl h

/-- vinery/uroute.Compare -/
@[reducible] def vb26 : VC :=
  .seq (.region [m 2 (.box 0 (t 0)), m 3 (.box 1 (t 1)), m 4 (.mov (.c (i 0)))]) <|
  .seq (.dreg [(m 5 (.field 0 (t 2)), []), (m 6 (.load (some 8) (t 5)), [0]), (m 7 (.field 0 (t 3)), []), (m 8 (.load (some 8) (t 7)), [2]), (m 9 (.call false 57 [(t 6), (t 8)]), [1, 3]), (m 10 (.field 8 (t 2)), []), (m 11 (.field 0 (t 10)), [5]), (m 12 (.load (some 17) (t 11)), [6]), (m 13 (.field 8 (t 3)), []), (m 14 (.field 0 (t 13)), [8]), (m 15 (.load (some 17) (t 14)), [9]), (m 16 (.call false 58 [(t 12), (t 15)]), [7, 10, 4]), (m 17 (.field 8 (t 2)), []), (m 18 (.field 17 (t 17)), [12]), (m 19 (.load none (t 18)), [13]), (m 20 (.field 8 (t 3)), []), (m 21 (.field 17 (t 20)), [15]), (m 22 (.load none (t 21)), [16]), (m 23 (.call false 59 [(t 19), (t 22)]), [14, 17, 11]), (m 24 (.buildSlice 2 1 3 [(i 0)] [(0, (t 9)), (1, (t 16)), (2, (t 23))]), [4, 11, 18]), (m 25 (.call false 56 [(t 24)]), [19, 18]), (m 4 (.mov (t 25)), [20, 20, 0, 1, 2, 3, 4, 5, 6, 7, 8, 9, 10, 11, 12, 13, 14, 15, 16, 17, 18, 19, 20])] [(1, 0), (1, 1), (1, 2), (1, 3), (1, 4), (1, 5), (1, 6), (1, 7), (1, 8), (1, 9), (1, 10), (1, 11), (1, 12), (1, 13), (1, 14), (1, 15), (1, 16), (1, 17), (1, 18), (0, 19), (1, 20), (2, 21)] [0, 1, 0, 4, 15, 0, 32, 96, 0, 256, 768, 2047, 0, 4096, 12288, 0, 32768, 98304, 262143, 524287, 1048575, 2097151]) <|
  .ret
def vf26 : VFun := ⟨26, 3, vb26, [.tmp 4], false⟩
theorem cf26 : cFun Go.Proofs.Tryd.prog rawF false Go.Proofs.Tryd.f26 = some vf26 := by kernel_rfl
theorem T26 {args : List PV} {σ : VHeap} {Post : KP} (h : belH σ.length σ → (∀ c, c ∈ args → bel σ.length c) → vrun Go.Proofs.Tryd.prog σ.length vb26 (argsEnv args) (σ ++ [dd, dd, dd]) (vend vf26 (TrimP σ.length Post))) (hl : args.length ≤ 26 := by exact Nat.le_of_ble_eq_true rfl) : T Go.Proofs.Tryd.prog 26 args σ Post := T.walk Go.Proofs.Tryd.func26 cf26 hl rfl h

/-- vinery/uroute.Same -/
@[reducible] def vb27 : VC :=
  .seq (.region [m 2 (.box 0 (t 0)), m 3 (.box 1 (t 1)), m 4 (.mov (.c (.bool false)))]) <|
  .seq (.region [m 5 (.field 0 (t 2)), m 6 (.load (some 8) (t 5)), m 7 (.field 8 (t 2)), m 8 (.load (some 18) (t 7)), m 9 (.build [(b 0), (b 0), (b 0), (b 0), (b 0), (b 0), (b 0), (b 0), (i 0), (b 0), (b 0), (b 0), (b 0), (b 0), (b 0), (b 0), (b 0), (b 0), (b 0), (b 0), (b 0), (b 0), (b 0), (b 0), (b 0), (i 0)] [(0, 8, (t 6)), (8, 18, (t 8))]), m 10 (.field 0 (t 3)), m 11 (.load (some 8) (t 10)), m 12 (.field 8 (t 3)), m 13 (.load (some 18) (t 12)), m 14 (.build [(b 0), (b 0), (b 0), (b 0), (b 0), (b 0), (b 0), (b 0), (i 0), (b 0), (b 0), (b 0), (b 0), (b 0), (b 0), (b 0), (b 0), (b 0), (b 0), (b 0), (b 0), (b 0), (b 0), (b 0), (b 0), (i 0)] [(0, 8, (t 11)), (8, 18, (t 13))]), m 15 (.eqAgg [(.i .u8), (.i .u8), (.i .u8), (.i .u8), (.i .u8), (.i .u8), (.i .u8), (.i .u8), (.i .i64), (.i .u8), (.i .u8), (.i .u8), (.i .u8), (.i .u8), (.i .u8), (.i .u8), (.i .u8), (.i .u8), (.i .u8), (.i .u8), (.i .u8), (.i .u8), (.i .u8), (.i .u8), (.i .u8), (.i .i64)] false (t 9) (t 14)), m 4 (.mov (t 15))]) <|
  .ret
def vf27 : VFun := ⟨16, 2, vb27, [.tmp 4], false⟩
theorem cf27 : cFun Go.Proofs.Tryd.prog rawF false Go.Proofs.Tryd.f27 = some vf27 := by kernel_rfl
theorem T27 {args : List PV} {σ : VHeap} {Post : KP} (h : belH σ.length σ → (∀ c, c ∈ args → bel σ.length c) → vrun Go.Proofs.Tryd.prog σ.length vb27 (argsEnv args) (σ ++ [dd, dd]) (vend vf27 (TrimP σ.length Post))) (hl : args.length ≤ 16 := by exact Nat.le_of_ble_eq_true rfl) : T Go.Proofs.Tryd.prog 27 args σ Post := T.walk Go.Proofs.Tryd.func27 cf27 hl rfl h

/-- vinery/uroute.Text -/
@[reducible] def vb40 : VC :=
  .seq (.region [m 1 (.box 0 (t 0)), m 2 (.mov (.c (.str [])))]) <|
  .seq (.seq (.region [m 3 (.load (some 27) (t 1)), m 4 (.call false 19 [(t 3)]), m 5 (.un .not (t 4))]) <|
  .cond (t 5) (.seq (.region [m 2 (.mov (.c (.str [])))]) <|
  .ret) (.skip)) <|
  .seq (.dreg [(m 6 (.field 0 (t 1)), []), (m 7 (.load (some 8) (t 6)), [0]), (m 8 (.call false 70 [(t 7)]), [1]), (m 9 (.bin .add .num (t 8) (.c (.str [32]))), [2]), (m 10 (.field 8 (t 1)), []), (m 11 (.load (some 18) (t 10)), [4]), (m 12 (.call false 54 [(t 11)]), [5, 2]), (m 13 (.bin .add .num (t 9) (t 12)), [3, 6]), (m 14 (.bin .add .num (t 13) (.c (.str [32]))), [7]), (m 15 (.field 26 (t 1)), []), (m 16 (.load none (t 15)), [9]), (m 17 (.call false 69 [(t 16)]), [10, 6]), (m 18 (.bin .add .num (t 14) (t 17)), [8, 11]), (m 2 (.mov (t 18)), [12, 11, 0, 1, 2, 3, 4, 5, 6, 7, 8, 9, 10, 11, 12])] [(1, 0), (1, 1), (1, 2), (2, 3), (1, 4), (1, 5), (1, 6), (2, 7), (2, 8), (1, 9), (1, 10), (1, 11), (2, 12), (2, 13)] [0, 1, 3, 7, 0, 16, 55, 127, 255, 0, 512, 1655, 4095, 8191]) <|
  .ret
def vf40 : VFun := ⟨19, 1, vb40, [.tmp 2], false⟩
theorem cf40 : cFun Go.Proofs.Tryd.prog rawF false Go.Proofs.Tryd.f40 = some vf40 := by kernel_rfl
theorem T40 {args : List PV} {σ : VHeap} {Post : KP} (h : belH σ.length σ → (∀ c, c ∈ args → bel σ.length c) → vrun Go.Proofs.Tryd.prog σ.length vb40 (argsEnv args) (σ ++ [dd]) (vend vf40 (TrimP σ.length Post))) (hl : args.length ≤ 19 := by exact Nat.le_of_ble_eq_true rfl) : T Go.Proofs.Tryd.prog 40 args σ Post := T.walk Go.Proofs.Tryd.func40 cf40 hl rfl h

/-- vinery/label.Bytes -/
@[reducible] def vb41 : VC :=
  .seq (.region [m 4 (.newRow 0 1), m 5 (.mov (.c (i 0)))]) <|
  .seq (.seq (.region [m 7 (.mov (t 0)), m 8 (.bin .lss .num (t 7) (.c (i 0))), m 9 (.mov (t 8)), g 10 9 false (.mov (t 0)), g 11 9 false (.bin .gtr .num (t 10) (.c (i 1048575))), m 12 (.pick (t 9) (.c (.bool true)) (t 11))]) <|
  .cond (t 12) (.seq (.region [m 4 (.newRow 0 1), m 5 (.mov (.c (i 5)))]) <|
  .ret) (.skip)) <|
  .seq (.region [m 13 (.mov (t 0)), m 14 (.bin .shl .num (t 13) (.c (.int .u64 4))), m 6 (.mov (t 14))]) <|
  .seq (.seq (.region [m 15 (.mov (t 1))]) <|
  .cond (t 15) (.region [m 16 (.mov (t 6)), m 17 (.bin .or .num (t 16) (.c (i 1))), m 6 (.mov (t 17))]) (.skip)) <|
  .seq (.region [m 18 (.mov (t 6)), m 19 (.call false 61 [(.c .nils), (t 18), (.c (i 3))]), m 20 (.extract 0 (t 19)), m 21 (.extract 1 (t 19)), m 4 (.mov (t 20)), m 5 (.mov (t 21))]) <|
  .ret
def vf41 : VFun := ⟨22, 1, vb41, [.tmp 4, .tmp 5], false⟩
theorem cf41 : cFun Go.Proofs.Tryd.prog rawF false Go.Proofs.Tryd.f41 = some vf41 := by kernel_rfl
theorem T41 {args : List PV} {σ : VHeap} {Post : KP} (h : belH σ.length σ → (∀ c, c ∈ args → bel σ.length c) → vrun Go.Proofs.Tryd.prog σ.length vb41 (argsEnv args) (σ ++ [dd]) (vend vf41 (TrimP σ.length Post))) (hl : args.length ≤ 22 := by exact Nat.le_of_ble_eq_true rfl) : T Go.Proofs.Tryd.prog 41 args σ Post := T.walk Go.Proofs.Tryd.func41 cf41 hl rfl h

/-- vinery/uroute.whole -/
@[reducible] def vb42 : VC :=
  .seq (.region [m 2 (.mov (.c (i 0)))]) <|
  .seq (.region [m 3 (.mov (t 0)), m 4 (.bin .add .num (t 3) (.c (i 7))), m 5 (.bin .quo .num (t 4) (.c (i 8))), m 2 (.mov (t 5))]) <|
  .ret
def vf42 : VFun := ⟨6, 0, vb42, [.tmp 2], false⟩
theorem cf42 : cFun Go.Proofs.Tryd.prog rawF false Go.Proofs.Tryd.f42 = some vf42 := by kernel_rfl
theorem T42 {args : List PV} {σ : VHeap} {Post : KP} (h : belH σ.length σ → (∀ c, c ∈ args → bel σ.length c) → vrun Go.Proofs.Tryd.prog σ.length vb42 (argsEnv args) (σ ++ []) (vend vf42 (TrimP σ.length Post))) (hl : args.length ≤ 6 := by exact Nat.le_of_ble_eq_true rfl) : T Go.Proofs.Tryd.prog 42 args σ Post := T.walk Go.Proofs.Tryd.func42 cf42 hl rfl h

/-- vinery/cursor.Open -/
@[reducible] def vb43 : VC :=
  .seq (.region [m 2 (.mov (.c .nilp))]) <|
  .seq (.region [m 3 (.mov (t 0)), m 4 (.call false 76 [(t 3)]), m 5 (.build [.nils, (.bool false)] [(0, 1, (t 4))]), m 6 (.build [.nils, (.bool false)] [(0, 2, (t 5))]), m 7 (.box 0 (t 6)), m 2 (.mov (t 7))]) <|
  .ret
def vf43 : VFun := ⟨8, 1, vb43, [.tmp 2], false⟩
theorem cf43 : cFun Go.Proofs.Tryd.prog rawF false Go.Proofs.Tryd.f43 = some vf43 := by kernel_rfl
theorem T43 {args : List PV} {σ : VHeap} {Post : KP} (h : vrun Go.Proofs.Tryd.prog σ.length vb43 (argsEnv args) (σ ++ [dd]) (vend vf43 Post)) (hl : args.length ≤ 8 := by exact Nat.le_of_ble_eq_true rfl) : T Go.Proofs.Tryd.prog 43 args σ Post := T.walkR Go.Proofs.Tryd.func43 cf43 hl rfl h

/-- (*vinery/cursor.Reader).Num -/
@[reducible] def vb44 : VC :=
  .seq (.region [m 4 (.mov (.c (i 0)))]) <|
  .seq (.seq (.region [m 8 (.mov (t 1)), m 9 (.bin .lss .num (t 8) (.c (i 1))), m 10 (.mov (t 9)), g 11 10 false (.mov (t 1)), g 12 10 false (.bin .gtr .num (t 11) (.c (i 4))), m 13 (.pick (t 10) (.c (.bool true)) (t 12))]) <|
  .cond (t 13) (.region [m 1 (.mov (.c (i (-1))))]) (.skip)) <|
  .seq (.region [m 5 (.mov (.c (i 0)))]) <|
  .seq (.seq (.region [m 14 (.mov (t 0)), m 15 (.nilCheck (t 14)), m 16 (.field 0 (t 15)), m 17 (.mov (t 1)), m 18 (.call false 77 [(t 16), (t 17)]), m 19 (.len (t 18)), m 20 (.mov (.c (i 0)))]) <|
  .block 0 <| .loop <| .seq (.region [m 21 (.bin .lss .num (t 20) (t 19))]) <|
  .seq (.cond (t 21) (.skip) (.exit 0)) <|
  .seq (.block 1 <| .seq (.region [m 22 (.index 1 (t 18) (t 20)), m 23 (.load none (t 22)), m 7 (.mov (t 23))]) <|
  .region [m 24 (.mov (t 5)), m 25 (.bin .shl .num (t 24) (.c (.int .u64 8))), m 26 (.mov (t 7)), m 27 (.convInt .i64 (t 26)), m 28 (.bin .or .num (t 25) (t 27)), m 5 (.mov (t 28))]) <|
  .region [m 29 (.bin .add .num (t 20) (.c (i 1))), m 20 (.mov (t 29))]) <|
  .seq (.region [m 30 (.mov (t 5)), m 4 (.mov (t 30))]) <|
  .ret
def vf44 : VFun := ⟨31, 0, vb44, [.tmp 4], false⟩
theorem cf44 : cFun Go.Proofs.Tryd.prog rawF false Go.Proofs.Tryd.f44 = some vf44 := by kernel_rfl
theorem T44 {args : List PV} {σ : VHeap} {Post : KP} (h : belH σ.length σ → (∀ c, c ∈ args → bel σ.length c) → vrun Go.Proofs.Tryd.prog σ.length vb44 (argsEnv args) (σ ++ []) (vend vf44 (TrimP σ.length Post))) (hl : args.length ≤ 31 := by exact Nat.le_of_ble_eq_true rfl) : T Go.Proofs.Tryd.prog 44 args σ Post := T.walk Go.Proofs.Tryd.func44 cf44 hl rfl h

/-- (*vinery/cursor.Reader).Sub -/
@[reducible] def vb45 : VC :=
  .seq (.region [m 4 (.mov (.c .nilp))]) <|
  .seq (.region [m 6 (.mov (t 0)), m 7 (.mov (t 1)), m 8 (.call false 48 [(t 6), (t 7)]), m 5 (.mov (t 8))]) <|
  .seq (.region [m 9 (.mov (t 5)), m 10 (.mov (t 0)), m 11 (.nilCheck (t 10)), m 12 (.field 0 (t 11)), m 13 (.field 1 (t 12)), m 14 (.load none (t 13)), m 15 (.build [.nils, (.bool false)] [(0, 1, (t 9)), (1, 1, (t 14))]), m 16 (.build [.nils, (.bool false)] [(0, 2, (t 15))]), m 17 (.box 0 (t 16)), m 4 (.mov (t 17))]) <|
  .ret
def vf45 : VFun := ⟨18, 1, vb45, [.tmp 4], false⟩
theorem cf45 : cFun Go.Proofs.Tryd.prog rawF false Go.Proofs.Tryd.f45 = some vf45 := by kernel_rfl
theorem T45 {args : List PV} {σ : VHeap} {Post : KP} (h : vrun Go.Proofs.Tryd.prog σ.length vb45 (argsEnv args) (σ ++ [dd]) (vend vf45 Post)) (hl : args.length ≤ 18 := by exact Nat.le_of_ble_eq_true rfl) : T Go.Proofs.Tryd.prog 45 args σ Post := T.walkR Go.Proofs.Tryd.func45 cf45 hl rfl h

/-- (*vinery/cursor.rest).Bad -/
@[reducible] def vb46 : VC :=
  .seq (.region [m 2 (.mov (.c (.bool false)))]) <|
  .seq (.region [m 3 (.mov (t 0)), m 4 (.nilCheck (t 3)), m 5 (.field 1 (t 4)), m 6 (.load none (t 5)), m 2 (.mov (t 6))]) <|
  .ret
def vf46 : VFun := ⟨7, 0, vb46, [.tmp 2], false⟩
theorem cf46 : cFun Go.Proofs.Tryd.prog rawF false Go.Proofs.Tryd.f46 = some vf46 := by kernel_rfl
theorem T46 {args : List PV} {σ : VHeap} {Post : KP} (h : belH σ.length σ → (∀ c, c ∈ args → bel σ.length c) → vrun Go.Proofs.Tryd.prog σ.length vb46 (argsEnv args) (σ ++ []) (vend vf46 (TrimP σ.length Post))) (hl : args.length ≤ 7 := by exact Nat.le_of_ble_eq_true rfl) : T Go.Proofs.Tryd.prog 46 args σ Post := T.walk Go.Proofs.Tryd.func46 cf46 hl rfl h

/-- vinery/label.Read -/
@[reducible] def vb47 : VC :=
  .seq (.region [m 2 (.mov (.c (i 0))), m 3 (.mov (.c (.bool false))), m 4 (.mov (.c (i 0)))]) <|
  .seq (.region [m 6 (.mov (t 0)), m 7 (.call false 43 [(t 6)]), m 8 (.call false 44 [(t 7), (.c (i 3))]), m 5 (.mov (t 8))]) <|
  .seq (.seq (.region [m 9 (.mov (t 0)), m 10 (.len (t 9)), m 11 (.bin .neq .num (t 10) (.c (i 3))), m 12 (.mov (t 11)), g 13 12 false (.mov (t 5)), g 14 12 false (.bin .and .num (t 13) (.c (i 15))), g 15 12 false (.bin .gtr .num (t 14) (.c (i 1))), m 16 (.pick (t 12) (.c (.bool true)) (t 15))]) <|
  .cond (t 16) (.seq (.region [m 2 (.mov (.c (i 0))), m 3 (.mov (.c (.bool false))), m 4 (.mov (.c (i 4)))]) <|
  .ret) (.skip)) <|
  .seq (.region [m 17 (.mov (t 5)), m 18 (.bin .shr .num (t 17) (.c (.int .u64 4))), m 19 (.mov (t 5)), m 20 (.bin .and .num (t 19) (.c (i 1))), m 21 (.bin .eql .num (t 20) (.c (i 1))), m 2 (.mov (t 18)), m 3 (.mov (t 21)), m 4 (.mov (.c (i 0)))]) <|
  .ret
def vf47 : VFun := ⟨22, 0, vb47, [.tmp 2, .tmp 3, .tmp 4], false⟩
theorem cf47 : cFun Go.Proofs.Tryd.prog rawF false Go.Proofs.Tryd.f47 = some vf47 := by kernel_rfl
theorem T47 {args : List PV} {σ : VHeap} {Post : KP} (h : belH σ.length σ → (∀ c, c ∈ args → bel σ.length c) → vrun Go.Proofs.Tryd.prog σ.length vb47 (argsEnv args) (σ ++ []) (vend vf47 (TrimP σ.length Post))) (hl : args.length ≤ 22 := by exact Nat.le_of_ble_eq_true rfl) : T Go.Proofs.Tryd.prog 47 args σ Post := T.walk Go.Proofs.Tryd.func47 cf47 hl rfl h

/-- (*vinery/cursor.Reader).Take -/
@[reducible] def vb48 : VC :=
  .seq (.region [m 4 (.newRow 0 1)]) <|
  .seq (.region [m 5 (.mov (t 0)), m 6 (.nilCheck (t 5)), m 7 (.field 0 (t 6)), m 8 (.mov (t 1)), m 9 (.call false 77 [(t 7), (t 8)]), m 10 (.call false 76 [(t 9)]), m 4 (.mov (t 10))]) <|
  .ret
def vf48 : VFun := ⟨11, 1, vb48, [.tmp 4], false⟩
theorem cf48 : cFun Go.Proofs.Tryd.prog rawF false Go.Proofs.Tryd.f48 = some vf48 := by kernel_rfl
theorem T48 {args : List PV} {σ : VHeap} {Post : KP} (h : belH σ.length σ → (∀ c, c ∈ args → bel σ.length c) → vrun Go.Proofs.Tryd.prog σ.length vb48 (argsEnv args) (σ ++ [dd]) (vend vf48 (TrimP σ.length Post))) (hl : args.length ≤ 11 := by exact Nat.le_of_ble_eq_true rfl) : T Go.Proofs.Tryd.prog 48 args σ Post := T.walk Go.Proofs.Tryd.func48 cf48 hl rfl h

/-- (*vinery/cursor.rest).Left -/
@[reducible] def vb49 : VC :=
  .seq (.region [m 2 (.mov (.c (i 0)))]) <|
  .seq (.seq (.region [m 3 (.mov (t 0)), m 4 (.nilCheck (t 3)), m 5 (.field 1 (t 4)), m 6 (.load none (t 5))]) <|
  .cond (t 6) (.seq (.region [m 2 (.mov (.c (i 0)))]) <|
  .ret) (.skip)) <|
  .seq (.region [m 7 (.mov (t 0)), m 8 (.nilCheck (t 7)), m 9 (.field 0 (t 8)), m 10 (.load none (t 9)), m 11 (.len (t 10)), m 2 (.mov (t 11))]) <|
  .ret
def vf49 : VFun := ⟨12, 0, vb49, [.tmp 2], false⟩
theorem cf49 : cFun Go.Proofs.Tryd.prog rawF false Go.Proofs.Tryd.f49 = some vf49 := by kernel_rfl
theorem T49 {args : List PV} {σ : VHeap} {Post : KP} (h : belH σ.length σ → (∀ c, c ∈ args → bel σ.length c) → vrun Go.Proofs.Tryd.prog σ.length vb49 (argsEnv args) (σ ++ []) (vend vf49 (TrimP σ.length Post))) (hl : args.length ≤ 12 := by exact Nat.le_of_ble_eq_true rfl) : T Go.Proofs.Tryd.prog 49 args σ Post := T.walk Go.Proofs.Tryd.func49 cf49 hl rfl h

/-- bytes.Equal -/
@[reducible] def vb50 : VC :=
  .seq (.region [m 4 (.mov (.c (.bool false)))]) <|
  .seq (.region [m 5 (.mov (t 0)), m 6 (.b2s (t 5)), m 7 (.mov (t 1)), m 8 (.b2s (t 7)), m 9 (.bin .eql .num (t 6) (t 8)), m 4 (.mov (t 9))]) <|
  .ret
def vf50 : VFun := ⟨10, 0, vb50, [.tmp 4], false⟩
theorem cf50 : cFun Go.Proofs.Tryd.prog rawF false Go.Proofs.Tryd.f50 = some vf50 := by kernel_rfl
theorem T50 {args : List PV} {σ : VHeap} {Post : KP} (h : belH σ.length σ → (∀ c, c ∈ args → bel σ.length c) → vrun Go.Proofs.Tryd.prog σ.length vb50 (argsEnv args) (σ ++ []) (vend vf50 (TrimP σ.length Post))) (hl : args.length ≤ 10 := by exact Nat.le_of_ble_eq_true rfl) : T Go.Proofs.Tryd.prog 50 args σ Post := T.walk Go.Proofs.Tryd.func50 cf50 hl rfl h

/-- vinery/vineryref05.Bytes -/
@[reducible] def vb51 : VC :=
  .seq (.region [m 4 (.newRow 0 1), m 5 (.mov (.c (i 0)))]) <|
  .seq (.seq (.region [m 7 (.mov (t 0)), m 8 (.bin .lss .num (t 7) (.c (i 0))), m 9 (.mov (t 8)), g 10 9 false (.mov (t 0)), g 11 9 false (.bin .gtr .num (t 10) (.c (i 1048575))), m 12 (.pick (t 9) (.c (.bool true)) (t 11))]) <|
  .cond (t 12) (.seq (.region [m 4 (.newRow 0 1), m 5 (.mov (.c (i 5)))]) <|
  .ret) (.skip)) <|
  .seq (.region [m 13 (.mov (t 0)), m 14 (.bin .mul .num (.c (i 16)) (t 13)), m 6 (.mov (t 14))]) <|
  .seq (.seq (.region [m 15 (.mov (t 1))]) <|
  .cond (t 15) (.region [m 16 (.mov (t 6)), m 17 (.bin .add .num (t 16) (.c (i 1))), m 6 (.mov (t 17))]) (.skip)) <|
  .seq (.region [m 18 (.mov (t 6)), m 19 (.call false 78 [(t 18), (.c (i 3))]), m 4 (.mov (t 19)), m 5 (.mov (.c (i 0)))]) <|
  .ret
def vf51 : VFun := ⟨20, 1, vb51, [.tmp 4, .tmp 5], false⟩
theorem cf51 : cFun Go.Proofs.Tryd.prog rawF false Go.Proofs.Tryd.f51 = some vf51 := by kernel_rfl
theorem T51 {args : List PV} {σ : VHeap} {Post : KP} (h : belH σ.length σ → (∀ c, c ∈ args → bel σ.length c) → vrun Go.Proofs.Tryd.prog σ.length vb51 (argsEnv args) (σ ++ [dd]) (vend vf51 (TrimP σ.length Post))) (hl : args.length ≤ 20 := by exact Nat.le_of_ble_eq_true rfl) : T Go.Proofs.Tryd.prog 51 args σ Post := T.walk Go.Proofs.Tryd.func51 cf51 hl rfl h

/-- vinery/vineryref03.Of -/
@[reducible] def vb52 : VC :=
  .seq (.region [m 2 (.alloc 0 [(b 0), (b 0), (b 0), (b 0), (b 0), (b 0), (b 0), (b 0)])]) <|
  .seq (.region [m 3 (.alloc 1 [(b 0), (b 0), (b 0), (b 0), (b 0), (b 0), (b 0), (b 0)])]) <|
  .seq (.seq (.region [m 4 (.mov (.c (i 0)))]) <|
  .block 0 <| .loop <| .seq (.seq (.region [m 5 (.mov (t 4)), m 6 (.bin .lss .num (t 5) (.c (i 8))), m 7 (.mov (t 6)), g 8 7 true (.mov (t 4)), g 9 7 true (.mov (t 0)), g 10 7 true (.len (t 9)), g 11 7 true (.bin .lss .num (t 8) (t 10)), m 12 (.pick (t 7) (t 11) (.c (.bool false)))]) <|
  .cond (t 12) (.skip) (.exit 0)) <|
  .seq (.block 1 <| .region [m 15 (.mov (t 4)), m 16 (.mov (t 0)), m 17 (.mov (t 4)), m 18 (.index 1 (t 16) (t 17)), m 19 (.load none (t 18)), m 20 (.indexArr 8 1 (t 3) (t 15)), e (.store 1 (t 20) (t 19))]) <|
  .region [m 13 (.mov (t 4)), m 14 (.bin .add .num (t 13) (.c (i 1))), m 4 (.mov (t 14))]) <|
  .seq (.region [m 21 (.load (some 8) (t 3)), e (.store 8 (t 2) (t 21))]) <|
  .ret
def vf52 : VFun := ⟨22, 2, vb52, [.cell 2 (some 8)], false⟩
theorem cf52 : cFun Go.Proofs.Tryd.prog rawF false Go.Proofs.Tryd.f52 = some vf52 := by kernel_rfl
theorem T52 {args : List PV} {σ : VHeap} {Post : KP} (h : belH σ.length σ → (∀ c, c ∈ args → bel σ.length c) → vrun Go.Proofs.Tryd.prog σ.length vb52 (argsEnv args) (σ ++ [dd, dd]) (vend vf52 (TrimP σ.length Post))) (hl : args.length ≤ 22 := by exact Nat.le_of_ble_eq_true rfl) : T Go.Proofs.Tryd.prog 52 args σ Post := T.walk Go.Proofs.Tryd.func52 cf52 hl rfl h

/-- vinery/vineryref05.Read -/
@[reducible] def vb53 : VC :=
  .seq (.region [m 2 (.mov (.c (i 0))), m 3 (.mov (.c (.bool false))), m 4 (.mov (.c (i 0)))]) <|
  .seq (.region [m 6 (.mov (t 0)), m 7 (.call false 79 [(t 6)]), m 5 (.mov (t 7))]) <|
  .seq (.seq (.region [m 8 (.mov (t 0)), m 9 (.len (t 8)), m 10 (.bin .neq .num (t 9) (.c (i 3))), m 11 (.mov (t 10)), g 12 11 false (.mov (t 5)), g 13 11 false (.bin .rem .num (t 12) (.c (i 16))), g 14 11 false (.bin .gtr .num (t 13) (.c (i 1))), m 15 (.pick (t 11) (.c (.bool true)) (t 14))]) <|
  .cond (t 15) (.seq (.region [m 2 (.mov (.c (i 0))), m 3 (.mov (.c (.bool false))), m 4 (.mov (.c (i 4)))]) <|
  .ret) (.skip)) <|
  .seq (.region [m 16 (.mov (t 5)), m 17 (.bin .quo .num (t 16) (.c (i 16))), m 18 (.mov (t 5)), m 19 (.bin .rem .num (t 18) (.c (i 16))), m 20 (.bin .eql .num (t 19) (.c (i 1))), m 2 (.mov (t 17)), m 3 (.mov (t 20)), m 4 (.mov (.c (i 0)))]) <|
  .ret
def vf53 : VFun := ⟨21, 0, vb53, [.tmp 2, .tmp 3, .tmp 4], false⟩
theorem cf53 : cFun Go.Proofs.Tryd.prog rawF false Go.Proofs.Tryd.f53 = some vf53 := by kernel_rfl
theorem T53 {args : List PV} {σ : VHeap} {Post : KP} (h : belH σ.length σ → (∀ c, c ∈ args → bel σ.length c) → vrun Go.Proofs.Tryd.prog σ.length vb53 (argsEnv args) (σ ++ []) (vend vf53 (TrimP σ.length Post))) (hl : args.length ≤ 21 := by exact Nat.le_of_ble_eq_true rfl) : T Go.Proofs.Tryd.prog 53 args σ Post := T.walk Go.Proofs.Tryd.func53 cf53 hl rfl h

/-- vinery/addr.PrefixText -/
@[reducible] def vb54 : VC :=
  .seq (.region [m 1 (.box 0 (t 0)), m 2 (.mov (.c (.str [])))]) <|
  .seq (.seq (.region [m 3 (.load (some 18) (t 1)), m 4 (.call false 80 [(t 3)]), m 5 (.un .not (t 4))]) <|
  .cond (t 5) (.seq (.region [m 2 (.mov (.c (.str [])))]) <|
  .ret) (.skip)) <|
  .seq (.dreg [(m 6 (.field 0 (t 1)), []), (m 7 (.load (some 17) (t 6)), [0]), (m 8 (.call false 72 [(t 7)]), [1]), (m 9 (.bin .add .num (t 8) (.c (.str [47]))), [2]), (m 10 (.field 17 (t 1)), []), (m 11 (.load none (t 10)), [4]), (m 12 (.call false 69 [(t 11)]), [5, 2]), (m 13 (.bin .add .num (t 9) (t 12)), [3, 6]), (m 2 (.mov (t 13)), [7, 6, 0, 1, 2, 3, 4, 5, 6, 7])] [(1, 0), (1, 1), (1, 2), (2, 3), (1, 4), (1, 5), (1, 6), (2, 7), (2, 8)] [0, 1, 3, 7, 0, 16, 55, 127, 255]) <|
  .ret
def vf54 : VFun := ⟨14, 1, vb54, [.tmp 2], false⟩
theorem cf54 : cFun Go.Proofs.Tryd.prog rawF false Go.Proofs.Tryd.f54 = some vf54 := by kernel_rfl
theorem T54 {args : List PV} {σ : VHeap} {Post : KP} (h : belH σ.length σ → (∀ c, c ∈ args → bel σ.length c) → vrun Go.Proofs.Tryd.prog σ.length vb54 (argsEnv args) (σ ++ [dd]) (vend vf54 (TrimP σ.length Post))) (hl : args.length ≤ 14 := by exact Nat.le_of_ble_eq_true rfl) : T Go.Proofs.Tryd.prog 54 args σ Post := T.walk Go.Proofs.Tryd.func54 cf54 hl rfl h

/-- vinery/vineryref02.RightPrefix -/
@[reducible] def vb55 : VC :=
  .seq (.region [m 1 (.box 0 (t 0)), m 2 (.mov (.c (.bool false)))]) <|
  .seq (.region [m 6 (.field 0 (t 1)), m 7 (.load (some 17) (t 6)), m 8 (.call false 81 [(t 7)]), m 3 (.mov (t 8))]) <|
  .seq (.seq (.region [m 9 (.mov (t 3)), m 10 (.un .not (t 9)), m 11 (.mov (t 10)), g 12 11 false (.field 0 (t 1)), g 13 11 false (.field 0 (t 12)), g 14 11 false (.load none (t 13)), g 15 11 false (.bin .eql .num (t 14) (.c (i 0))), m 16 (.pick (t 11) (.c (.bool true)) (t 15)), m 17 (.mov (t 16)), g 18 17 false (.field 17 (t 1)), g 19 17 false (.load none (t 18)), g 20 17 false (.bin .lss .num (t 19) (.c (i 0))), m 21 (.pick (t 17) (.c (.bool true)) (t 20)), m 22 (.mov (t 21)), g 23 22 false (.field 17 (t 1)), g 24 22 false (.load none (t 23)), g 25 22 false (.field 0 (t 1)), g 26 22 false (.field 0 (t 25)), g 27 22 false (.load none (t 26)), g 28 22 false (.bin .mul .num (.c (i 8)) (t 27)), g 29 22 false (.bin .gtr .num (t 24) (t 28)), m 30 (.pick (t 22) (.c (.bool true)) (t 29))]) <|
  .cond (t 30) (.seq (.region [m 2 (.mov (.c (.bool false)))]) <|
  .ret) (.skip)) <|
  .seq (.seq (.region [m 31 (.field 17 (t 1)), m 32 (.load none (t 31)), m 4 (.mov (t 32))]) <|
  .block 0 <| .loop <| .seq (.seq (.region [m 33 (.mov (t 4)), m 34 (.field 0 (t 1)), m 35 (.field 0 (t 34)), m 36 (.load none (t 35)), m 37 (.bin .mul .num (.c (i 8)) (t 36)), m 38 (.bin .lss .num (t 33) (t 37))]) <|
  .cond (t 38) (.skip) (.exit 0)) <|
  .seq (.block 1 <| .seq (.region [m 41 (.field 0 (t 1)), m 42 (.load (some 17) (t 41)), m 43 (.mov (t 4)), m 44 (.call false 82 [(t 42), (t 43)]), m 5 (.mov (t 44))]) <|
  .seq (.region [m 45 (.mov (t 5))]) <|
  .cond (t 45) (.seq (.region [m 2 (.mov (.c (.bool false)))]) <|
  .ret) (.skip)) <|
  .region [m 39 (.mov (t 4)), m 40 (.bin .add .num (t 39) (.c (i 1))), m 4 (.mov (t 40))]) <|
  .seq (.region [m 2 (.mov (.c (.bool true)))]) <|
  .ret
def vf55 : VFun := ⟨46, 1, vb55, [.tmp 2], false⟩
theorem cf55 : cFun Go.Proofs.Tryd.prog rawF false Go.Proofs.Tryd.f55 = some vf55 := by kernel_rfl
theorem T55 {args : List PV} {σ : VHeap} {Post : KP} (h : belH σ.length σ → (∀ c, c ∈ args → bel σ.length c) → vrun Go.Proofs.Tryd.prog σ.length vb55 (argsEnv args) (σ ++ [dd]) (vend vf55 (TrimP σ.length Post))) (hl : args.length ≤ 46 := by exact Nat.le_of_ble_eq_true rfl) : T Go.Proofs.Tryd.prog 55 args σ Post := T.walk Go.Proofs.Tryd.func55 cf55 hl rfl h

/-- cmp.Or[int] -/
@[reducible] def vb56 : VC :=
  .seq (.region [m 2 (.mov (.c (i 0)))]) <|
  .seq (.region [m 3 (.mov (.c (i 0)))]) <|
  .seq (.seq (.region [m 6 (.mov (t 0)), m 7 (.len (t 6)), m 8 (.mov (.c (i 0)))]) <|
  .block 0 <| .loop <| .seq (.region [m 9 (.bin .lss .num (t 8) (t 7))]) <|
  .seq (.cond (t 9) (.skip) (.exit 0)) <|
  .seq (.block 1 <| .seq (.region [m 10 (.index 1 (t 6) (t 8)), m 11 (.load none (t 10)), m 5 (.mov (t 11))]) <|
  .seq (.region [m 12 (.mov (t 5)), m 13 (.mov (t 3)), m 14 (.bin .neq .num (t 12) (t 13))]) <|
  .cond (t 14) (.seq (.region [m 15 (.mov (t 5)), m 2 (.mov (t 15))]) <|
  .ret) (.skip)) <|
  .region [m 16 (.bin .add .num (t 8) (.c (i 1))), m 8 (.mov (t 16))]) <|
  .seq (.region [m 17 (.mov (t 3)), m 2 (.mov (t 17))]) <|
  .ret
def vf56 : VFun := ⟨18, 0, vb56, [.tmp 2], false⟩
theorem cf56 : cFun Go.Proofs.Tryd.prog rawF false Go.Proofs.Tryd.f56 = some vf56 := by kernel_rfl
theorem T56 {args : List PV} {σ : VHeap} {Post : KP} (h : belH σ.length σ → (∀ c, c ∈ args → bel σ.length c) → vrun Go.Proofs.Tryd.prog σ.length vb56 (argsEnv args) (σ ++ []) (vend vf56 (TrimP σ.length Post))) (hl : args.length ≤ 18 := by exact Nat.le_of_ble_eq_true rfl) : T Go.Proofs.Tryd.prog 56 args σ Post := T.walk Go.Proofs.Tryd.func56 cf56 hl rfl h

/-- vinery/rd.Compare -/
@[reducible] def vb57 : VC :=
  .seq (.region [m 2 (.box 0 (t 0)), m 3 (.box 1 (t 1)), m 4 (.mov (.c (i 0)))]) <|
  .seq (.seq (.region [m 5 (.load (some 8) (t 2)), m 6 (.load (some 8) (t 3)), m 7 (.eqAgg [(.i .u8), (.i .u8), (.i .u8), (.i .u8), (.i .u8), (.i .u8), (.i .u8), (.i .u8)] false (t 5) (t 6))]) <|
  .cond (t 7) (.seq (.region [m 4 (.mov (.c (i 0)))]) <|
  .ret) (.skip)) <|
  .seq (.dreg [(m 8 (.sliceArr 8 1 (t 2) none none), []), (m 9 (.sliceArr 8 1 (t 3) none none), []), (m 10 (.call false 68 [(t 8), (t 9)]), [0, 1]), (m 4 (.mov (t 10)), [2, 2, 0, 1, 2])] [(1, 0), (1, 1), (1, 2), (2, 3)] [0, 0, 3, 7]) <|
  .ret
def vf57 : VFun := ⟨11, 2, vb57, [.tmp 4], false⟩
theorem cf57 : cFun Go.Proofs.Tryd.prog rawF false Go.Proofs.Tryd.f57 = some vf57 := by kernel_rfl
theorem T57 {args : List PV} {σ : VHeap} {Post : KP} (h : belH σ.length σ → (∀ c, c ∈ args → bel σ.length c) → vrun Go.Proofs.Tryd.prog σ.length vb57 (argsEnv args) (σ ++ [dd, dd]) (vend vf57 (TrimP σ.length Post))) (hl : args.length ≤ 11 := by exact Nat.le_of_ble_eq_true rfl) : T Go.Proofs.Tryd.prog 57 args σ Post := T.walk Go.Proofs.Tryd.func57 cf57 hl rfl h

/-- vinery/addr.Compare -/
@[reducible] def vb58 : VC :=
  .seq (.region [m 2 (.box 0 (t 0)), m 3 (.box 1 (t 1)), m 4 (.mov (.c (i 0)))]) <|
  .seq (.dreg [(m 5 (.field 0 (t 2)), []), (m 6 (.load none (t 5)), [0]), (m 7 (.field 0 (t 3)), []), (m 8 (.load none (t 7)), [2]), (m 9 (.call false 59 [(t 6), (t 8)]), [1, 3]), (m 10 (.field 1 (t 2)), []), (m 11 (.sliceArr 16 1 (t 10) none none), [5]), (m 12 (.field 1 (t 3)), []), (m 13 (.sliceArr 16 1 (t 12) none none), [7]), (m 14 (.call false 68 [(t 11), (t 13)]), [6, 8, 4]), (m 15 (.buildSlice 2 1 2 [(i 0)] [(0, (t 9)), (1, (t 14))]), [4, 9]), (m 16 (.call false 56 [(t 15)]), [10, 9]), (m 4 (.mov (t 16)), [11, 11, 0, 1, 2, 3, 4, 5, 6, 7, 8, 9, 10, 11])] [(1, 0), (1, 1), (1, 2), (1, 3), (1, 4), (1, 5), (1, 6), (1, 7), (1, 8), (1, 9), (0, 10), (1, 11), (2, 12)] [0, 1, 0, 4, 15, 0, 32, 0, 128, 511, 1023, 2047, 4095]) <|
  .ret
def vf58 : VFun := ⟨17, 3, vb58, [.tmp 4], false⟩
theorem cf58 : cFun Go.Proofs.Tryd.prog rawF false Go.Proofs.Tryd.f58 = some vf58 := by kernel_rfl
theorem T58 {args : List PV} {σ : VHeap} {Post : KP} (h : belH σ.length σ → (∀ c, c ∈ args → bel σ.length c) → vrun Go.Proofs.Tryd.prog σ.length vb58 (argsEnv args) (σ ++ [dd, dd, dd]) (vend vf58 (TrimP σ.length Post))) (hl : args.length ≤ 17 := by exact Nat.le_of_ble_eq_true rfl) : T Go.Proofs.Tryd.prog 58 args σ Post := T.walk Go.Proofs.Tryd.func58 cf58 hl rfl h

/-- cmp.Compare[int] -/
@[reducible] def vb59 : VC :=
  .seq (.region [m 4 (.mov (.c (i 0)))]) <|
  .seq (.region [m 7 (.mov (t 0)), m 8 (.call false 83 [(t 7)]), m 5 (.mov (t 8))]) <|
  .seq (.region [m 9 (.mov (t 1)), m 10 (.call false 83 [(t 9)]), m 6 (.mov (t 10))]) <|
  .seq (.seq (.region [m 11 (.mov (t 5))]) <|
  .cond (t 11) (.seq (.seq (.region [m 12 (.mov (t 6))]) <|
  .cond (t 12) (.seq (.region [m 4 (.mov (.c (i 0)))]) <|
  .ret) (.skip)) <|
  .seq (.region [m 4 (.mov (.c (i (-1))))]) <|
  .ret) (.skip)) <|
  .seq (.seq (.region [m 13 (.mov (t 6))]) <|
  .cond (t 13) (.seq (.region [m 4 (.mov (.c (i 1)))]) <|
  .ret) (.skip)) <|
  .seq (.seq (.region [m 14 (.mov (t 0)), m 15 (.mov (t 1)), m 16 (.bin .lss .num (t 14) (t 15))]) <|
  .cond (t 16) (.seq (.region [m 4 (.mov (.c (i (-1))))]) <|
  .ret) (.skip)) <|
  .seq (.seq (.region [m 17 (.mov (t 0)), m 18 (.mov (t 1)), m 19 (.bin .gtr .num (t 17) (t 18))]) <|
  .cond (t 19) (.seq (.region [m 4 (.mov (.c (i 1)))]) <|
  .ret) (.skip)) <|
  .seq (.region [m 4 (.mov (.c (i 0)))]) <|
  .ret
def vf59 : VFun := ⟨20, 0, vb59, [.tmp 4], false⟩
theorem cf59 : cFun Go.Proofs.Tryd.prog rawF false Go.Proofs.Tryd.f59 = some vf59 := by kernel_rfl
theorem T59 {args : List PV} {σ : VHeap} {Post : KP} (h : belH σ.length σ → (∀ c, c ∈ args → bel σ.length c) → vrun Go.Proofs.Tryd.prog σ.length vb59 (argsEnv args) (σ ++ []) (vend vf59 (TrimP σ.length Post))) (hl : args.length ≤ 20 := by exact Nat.le_of_ble_eq_true rfl) : T Go.Proofs.Tryd.prog 59 args σ Post := T.walk Go.Proofs.Tryd.func59 cf59 hl rfl h

/-- vinery/cursor.Put -/
@[reducible] def vb61 : VC :=
  .seq (.region [m 6 (.newRow 0 1), m 7 (.mov (.c (i 0)))]) <|
  .seq (.block 0 <| .seq (.region [m 11 (.mov (t 2)), m 12 (.bin .lss .num (t 11) (.c (i 1))), m 13 (.mov (t 12)), g 14 13 false (.mov (t 2)), g 15 13 false (.bin .gtr .num (t 14) (.c (i 4))), m 16 (.pick (t 13) (.c (.bool true)) (t 15)), m 10 (.mov (t 16))]) <|
  .cond (t 10) (.seq (.region [m 6 (.newRow 0 1), m 7 (.mov (.c (i 1)))]) <|
  .ret) (.seq (.region [m 18 (.mov (t 1)), m 19 (.bin .lss .num (t 18) (.c (i 0))), m 20 (.mov (t 19)), g 21 20 false (.mov (t 1)), g 22 20 false (.mov (t 2)), g 23 20 false (.bin .mul .num (.c (i 8)) (t 22)), g 24 20 false (.bin .shr .num (t 21) (t 23)), g 25 20 false (.bin .neq .num (t 24) (.c (i 0))), m 26 (.pick (t 20) (.c (.bool true)) (t 25)), m 17 (.mov (t 26))]) <|
  .cond (t 17) (.seq (.region [m 6 (.newRow 0 1), m 7 (.mov (.c (i 5)))]) <|
  .ret) (.skip))) <|
  .seq (.region [m 27 (.mov (t 0)), m 28 (.call false 76 [(t 27)]), m 8 (.mov (t 28))]) <|
  .seq (.seq (.region [m 29 (.mov (t 2)), m 30 (.bin .sub .num (t 29) (.c (i 1))), m 31 (.bin .mul .num (.c (i 8)) (t 30)), m 9 (.mov (t 31))]) <|
  .block 1 <| .loop <| .seq (.seq (.region [m 32 (.mov (t 9)), m 33 (.bin .geq .num (t 32) (.c (i 0)))]) <|
  .cond (t 33) (.skip) (.exit 1)) <|
  .seq (.block 2 <| .region [m 36 (.mov (t 8)), m 37 (.mov (t 1)), m 38 (.mov (t 9)), m 39 (.bin .shr .num (t 37) (t 38)), m 40 (.convInt .u8 (t 39)), m 41 (.buildSlice 1 1 1 [(b 0)] [(0, (t 40))]), m 42 (.append 2 1 1 (t 36) (t 41)), m 8 (.mov (t 42))]) <|
  .region [m 34 (.mov (t 9)), m 35 (.bin .sub .num (t 34) (.c (i 8))), m 9 (.mov (t 35))]) <|
  .seq (.region [m 43 (.mov (t 8)), m 6 (.mov (t 43)), m 7 (.mov (.c (i 0)))]) <|
  .ret
def vf61 : VFun := ⟨44, 3, vb61, [.tmp 6, .tmp 7], false⟩
theorem cf61 : cFun Go.Proofs.Tryd.prog rawF false Go.Proofs.Tryd.f61 = some vf61 := by kernel_rfl
theorem T61 {args : List PV} {σ : VHeap} {Post : KP} (h : belH σ.length σ → (∀ c, c ∈ args → bel σ.length c) → vrun Go.Proofs.Tryd.prog σ.length vb61 (argsEnv args) (σ ++ [dd, dd, dd]) (vend vf61 (TrimP σ.length Post))) (hl : args.length ≤ 44 := by exact Nat.le_of_ble_eq_true rfl) : T Go.Proofs.Tryd.prog 61 args σ Post := T.walk Go.Proofs.Tryd.func61 cf61 hl rfl h

/-- vinery/addr.Bytes -/
@[reducible] def vb63 : VC :=
  .seq (.region [m 1 (.box 0 (t 0)), m 2 (.newRow 1 1)]) <|
  .seq (.seq (.region [m 3 (.load (some 17) (t 1)), m 4 (.call false 84 [(t 3)]), m 5 (.un .not (t 4))]) <|
  .cond (t 5) (.seq (.region [m 2 (.newRow 1 1)]) <|
  .ret) (.skip)) <|
  .seq (.region [m 6 (.field 1 (t 1)), m 7 (.field 0 (t 1)), m 8 (.load none (t 7)), m 9 (.sliceArr 16 1 (t 6) none (some (t 8))), m 10 (.call false 76 [(t 9)]), m 2 (.mov (t 10))]) <|
  .ret
def vf63 : VFun := ⟨11, 2, vb63, [.tmp 2], false⟩
theorem cf63 : cFun Go.Proofs.Tryd.prog rawF false Go.Proofs.Tryd.f63 = some vf63 := by kernel_rfl
theorem T63 {args : List PV} {σ : VHeap} {Post : KP} (h : belH σ.length σ → (∀ c, c ∈ args → bel σ.length c) → vrun Go.Proofs.Tryd.prog σ.length vb63 (argsEnv args) (σ ++ [dd, dd]) (vend vf63 (TrimP σ.length Post))) (hl : args.length ≤ 11 := by exact Nat.le_of_ble_eq_true rfl) : T Go.Proofs.Tryd.prog 63 args σ Post := T.walk Go.Proofs.Tryd.func63 cf63 hl rfl h

/-- vinery/cursor.Order -/
@[reducible] def vb68 : VC :=
  .seq (.region [m 4 (.mov (.c (i 0)))]) <|
  .seq (.region [m 5 (.mov (t 0)), m 6 (.mov (t 1)), m 7 (.call false 86 [(t 5), (t 6)]), m 4 (.mov (t 7))]) <|
  .ret
def vf68 : VFun := ⟨8, 0, vb68, [.tmp 4], false⟩
theorem cf68 : cFun Go.Proofs.Tryd.prog rawF false Go.Proofs.Tryd.f68 = some vf68 := by kernel_rfl
theorem T68 {args : List PV} {σ : VHeap} {Post : KP} (h : belH σ.length σ → (∀ c, c ∈ args → bel σ.length c) → vrun Go.Proofs.Tryd.prog σ.length vb68 (argsEnv args) (σ ++ []) (vend vf68 (TrimP σ.length Post))) (hl : args.length ≤ 8 := by exact Nat.le_of_ble_eq_true rfl) : T Go.Proofs.Tryd.prog 68 args σ Post := T.walk Go.Proofs.Tryd.func68 cf68 hl rfl h

/-- vinery/rd.Text -/
@[reducible] def vb70 : VC :=
  .seq (.region [m 1 (.box 0 (t 0)), m 2 (.mov (.c (.str [])))]) <|
  .seq (.region [m 14 (.load (some 8) (t 1)), m 15 (.call false 88 [(t 14)]), m 13 (.mov (t 15)), m 16 (.extract 0 (t 13)), m 17 (.extract 1 (t 13)), m 18 (.extract 2 (t 13)), m 19 (.extract 3 (t 13)), m 3 (.mov (t 16)), m 4 (.mov (t 17)), m 5 (.mov (t 18)), m 6 (.mov (t 19))]) <|
  .seq (.seq (.region [m 20 (.mov (t 6)), m 21 (.un .not (t 20))]) <|
  .cond (t 21) (.seq (.region [m 22 (.buildSlice 1 1 2 [(b 0)] [(0, (.c (b 63))), (1, (.c (b 58)))]), m 23 (.bad), m 7 (.mov (t 23))]) <|
  .seq (.seq (.region [m 24 (.load (some 8) (t 1)), m 25 (.mov (.c (i 0)))]) <|
  .block 0 <| .loop <| .seq (.region [m 26 (.bin .lss .num (t 25) (.c (i 8)))]) <|
  .seq (.cond (t 26) (.skip) (.exit 0)) <|
  .seq (.block 1 <| .seq (.region [m 27 (.indexAgg 8 1 none (t 24) (t 25)), m 9 (.mov (t 27))]) <|
  .dreg [(m 28 (.mov (t 7)), []), (m 29 (.mov (t 9)), []), (m 30 (.bin .shr .num (t 29) (.c (.int .u64 4))), [1]), (m 31 (.indexStr (.c (.str [48, 49, 50, 51, 52, 53, 54, 55, 56, 57, 97, 98, 99, 100, 101, 102])) (t 30)), [2]), (m 32 (.mov (t 9)), []), (m 33 (.bin .and .num (t 32) (.c (b 15))), [4]), (m 34 (.indexStr (.c (.str [48, 49, 50, 51, 52, 53, 54, 55, 56, 57, 97, 98, 99, 100, 101, 102])) (t 33)), [5]), (m 35 (.buildSlice 2 1 2 [(b 0)] [(0, (t 31)), (1, (t 34))]), [3, 6]), (m 36 (.append 3 1 1 (t 28) (t 35)), [0, 7]), (m 7 (.mov (t 36)), [8, 8, 0, 1, 2, 3, 4, 5, 6, 7, 8])] [(2, 0), (2, 1), (2, 2), (2, 3), (2, 4), (2, 5), (2, 6), (0, 7), (0, 8), (2, 9)] [0, 0, 2, 6, 0, 16, 48, 126, 255, 511]) <|
  .region [m 37 (.bin .add .num (t 25) (.c (i 1))), m 25 (.mov (t 37))]) <|
  .seq (.region [m 38 (.mov (t 7)), m 39 (.b2s (t 38)), m 2 (.mov (t 39))]) <|
  .ret) (.skip)) <|
  .seq (.region [m 40 (.mov (t 4)), m 41 (.call false 69 [(t 40)]), m 10 (.mov (t 41))]) <|
  .seq (.seq (.region [m 42 (.mov (t 3)), m 43 (.bin .eql .num (t 42) (.c (i 1)))]) <|
  .cond (t 43) (.seq (.region [m 45 (.sliceArr 8 1 (t 1) (some (.c (i 2))) (some (.c (i 6)))), m 46 (.call false 89 [(t 45)]), m 44 (.mov (t 46)), m 47 (.extract 0 (t 44)), m 48 (.extract 1 (t 44)), m 11 (.alloc 4 [(i 0), (b 0), (b 0), (b 0), (b 0), (b 0), (b 0), (b 0), (b 0), (b 0), (b 0), (b 0), (b 0), (b 0), (b 0), (b 0), (b 0)]), e (.store 17 (t 11) (t 47)), m 12 (.mov (t 48))]) <|
  .region [m 49 (.load (some 17) (t 11)), m 50 (.call false 72 [(t 49)]), m 10 (.mov (t 50))]) (.skip)) <|
  .seq (.region [m 51 (.mov (t 3)), m 52 (.call false 69 [(t 51)]), m 53 (.bin .add .num (t 52) (.c (.str [58]))), m 54 (.mov (t 10)), m 55 (.bin .add .num (t 53) (t 54)), m 56 (.bin .add .num (t 55) (.c (.str [58]))), m 57 (.mov (t 5)), m 58 (.call false 69 [(t 57)]), m 59 (.bin .add .num (t 56) (t 58)), m 2 (.mov (t 59))]) <|
  .ret
def vf70 : VFun := ⟨60, 5, vb70, [.tmp 2], false⟩
theorem cf70 : cFun Go.Proofs.Tryd.prog rawF false Go.Proofs.Tryd.f70 = some vf70 := by kernel_rfl
theorem T70 {args : List PV} {σ : VHeap} {Post : KP} (h : belH σ.length σ → (∀ c, c ∈ args → bel σ.length c) → vrun Go.Proofs.Tryd.prog σ.length vb70 (argsEnv args) (σ ++ [dd, dd, dd, dd, dd]) (vend vf70 (TrimP σ.length Post))) (hl : args.length ≤ 60 := by exact Nat.le_of_ble_eq_true rfl) : T Go.Proofs.Tryd.prog 70 args σ Post := T.walk Go.Proofs.Tryd.func70 cf70 hl rfl h

/-- vinery/addr.Text -/
@[reducible] def vb72 : VC :=
  .seq (.region [m 1 (.box 0 (t 0)), m 2 (.mov (.c (.str [])))]) <|
  .seq (.seq (.region [m 6 (.load (some 17) (t 1)), m 7 (.call false 84 [(t 6)]), m 8 (.un .not (t 7))]) <|
  .cond (t 8) (.seq (.region [m 2 (.mov (.c (.str [])))]) <|
  .ret) (.skip)) <|
  .seq (.seq (.region [m 9 (.field 0 (t 1)), m 10 (.load none (t 9))]) <|
  .block 0 <| .seq (.region [m 12 (.bin .eql .num (t 10) (.c (i 4))), m 11 (.mov (t 12))]) <|
  .cond (t 11) (.seq (.region [m 3 (.newRow 1 1)]) <|
  .seq (.seq (.region [m 13 (.field 1 (t 1)), m 14 (.sliceArr 16 1 (t 13) none (some (.c (i 4)))), m 15 (.len (t 14)), m 16 (.mov (.c (i 0)))]) <|
  .block 1 <| .loop <| .seq (.region [m 17 (.bin .lss .num (t 16) (t 15))]) <|
  .seq (.cond (t 17) (.skip) (.exit 1)) <|
  .seq (.block 2 <| .seq (.region [m 18 (.index 1 (t 14) (t 16)), m 19 (.load none (t 18)), m 5 (.mov (t 19))]) <|
  .region [m 20 (.mov (t 3)), m 21 (.mov (t 5)), m 22 (.convInt .i64 (t 21)), m 23 (.call false 69 [(t 22)]), m 24 (.buildSlice 2 1 1 [(.str [])] [(0, (t 23))]), m 25 (.append 3 1 16 (t 20) (t 24)), m 3 (.mov (t 25))]) <|
  .region [m 26 (.bin .add .num (t 16) (.c (i 1))), m 16 (.mov (t 26))]) <|
  .seq (.region [m 27 (.mov (t 3)), m 28 (.call false 73 [(t 27), (.c (.str [46]))]), m 2 (.mov (t 28))]) <|
  .ret) (.seq (.region [m 30 (.bin .eql .num (t 10) (.c (i 16))), m 29 (.mov (t 30))]) <|
  .cond (t 29) (.seq (.region [m 31 (.load (some 17) (t 1)), m 32 (.call false 90 [(t 31)]), m 2 (.mov (t 32))]) <|
  .ret) (.skip))) <|
  .seq (.region [m 2 (.mov (.c (.str [])))]) <|
  .ret
def vf72 : VFun := ⟨33, 4, vb72, [.tmp 2], false⟩
theorem cf72 : cFun Go.Proofs.Tryd.prog rawF false Go.Proofs.Tryd.f72 = some vf72 := by kernel_rfl
theorem T72 {args : List PV} {σ : VHeap} {Post : KP} (h : belH σ.length σ → (∀ c, c ∈ args → bel σ.length c) → vrun Go.Proofs.Tryd.prog σ.length vb72 (argsEnv args) (σ ++ [dd, dd, dd, dd]) (vend vf72 (TrimP σ.length Post))) (hl : args.length ≤ 33 := by exact Nat.le_of_ble_eq_true rfl) : T Go.Proofs.Tryd.prog 72 args σ Post := T.walk Go.Proofs.Tryd.func72 cf72 hl rfl h

/-- bytes.Clone -/
@[reducible] def vb76 : VC :=
  .seq (.region [m 2 (.newRow 0 1)]) <|
  .seq (.seq (.region [m 3 (.mov (t 0)), m 4 (.bin .eql .slice (t 3) (.c .nils))]) <|
  .cond (t 4) (.seq (.region [m 2 (.newRow 0 1)]) <|
  .ret) (.skip)) <|
  .seq (.region [m 5 (.buildSlice 1 1 0 [(b 0)] []), m 6 (.mov (t 0)), m 7 (.append 2 1 1 (t 5) (t 6)), m 2 (.mov (t 7))]) <|
  .ret
def vf76 : VFun := ⟨8, 3, vb76, [.tmp 2], false⟩
theorem cf76 : cFun Go.Proofs.Tryd.prog rawF false Go.Proofs.Tryd.f76 = some vf76 := by kernel_rfl
theorem T76 {args : List PV} {σ : VHeap} {Post : KP} (h : belH σ.length σ → (∀ c, c ∈ args → bel σ.length c) → vrun Go.Proofs.Tryd.prog σ.length vb76 (argsEnv args) (σ ++ [dd, dd, dd]) (vend vf76 (TrimP σ.length Post))) (hl : args.length ≤ 8 := by exact Nat.le_of_ble_eq_true rfl) : T Go.Proofs.Tryd.prog 76 args σ Post := T.walk Go.Proofs.Tryd.func76 cf76 hl rfl h

/-- (*vinery/cursor.rest).next -/
@[reducible] def vb77 : VC :=
  .seq (.region [m 4 (.newRow 0 1)]) <|
  .seq (.seq (.region [m 6 (.mov (t 0)), m 7 (.nilCheck (t 6)), m 8 (.field 1 (t 7)), m 9 (.load none (t 8)), m 10 (.mov (t 9)), g 11 10 false (.mov (t 1)), g 12 10 false (.bin .lss .num (t 11) (.c (i 0))), m 13 (.pick (t 10) (.c (.bool true)) (t 12)), m 14 (.mov (t 13)), g 15 14 false (.mov (t 1)), g 16 14 false (.mov (t 0)), g 17 14 false (.nilCheck (t 16)), g 18 14 false (.field 0 (t 17)), g 19 14 false (.load none (t 18)), g 20 14 false (.len (t 19)), g 21 14 false (.bin .gtr .num (t 15) (t 20)), m 22 (.pick (t 14) (.c (.bool true)) (t 21))]) <|
  .cond (t 22) (.seq (.region [m 23 (.mov (t 0)), m 24 (.nilCheck (t 23)), m 25 (.field 1 (t 24)), e (.store 1 (t 25) (.c (.bool true)))]) <|
  .seq (.region [m 4 (.newRow 0 1)]) <|
  .ret) (.skip)) <|
  .seq (.region [m 26 (.mov (t 0)), m 27 (.nilCheck (t 26)), m 28 (.field 0 (t 27)), m 29 (.load none (t 28)), m 30 (.mov (t 1)), m 31 (.slice 1 (t 29) none (some (t 30))), m 5 (.mov (t 31))]) <|
  .seq (.region [m 32 (.mov (t 0)), m 33 (.mov (t 0)), m 34 (.nilCheck (t 33)), m 35 (.field 0 (t 34)), m 36 (.load none (t 35)), m 37 (.mov (t 1)), m 38 (.slice 1 (t 36) (some (t 37)) none), m 39 (.nilCheck (t 32)), m 40 (.field 0 (t 39)), e (.store 1 (t 40) (t 38))]) <|
  .seq (.region [m 41 (.mov (t 5)), m 4 (.mov (t 41))]) <|
  .ret
def vf77 : VFun := ⟨42, 1, vb77, [.tmp 4], false⟩
theorem cf77 : cFun Go.Proofs.Tryd.prog rawF false Go.Proofs.Tryd.f77 = some vf77 := by kernel_rfl
theorem T77 {args : List PV} {σ : VHeap} {Post : KP} (h : belH σ.length σ → (∀ c, c ∈ args → bel σ.length c) → vrun Go.Proofs.Tryd.prog σ.length vb77 (argsEnv args) (σ ++ [dd]) (vend vf77 (TrimP σ.length Post))) (hl : args.length ≤ 42 := by exact Nat.le_of_ble_eq_true rfl) : T Go.Proofs.Tryd.prog 77 args σ Post := T.walk Go.Proofs.Tryd.func77 cf77 hl rfl h

/-- vinery/vineryref01.Bytes -/
@[reducible] def vb78 : VC :=
  .seq (.region [m 4 (.newRow 0 1)]) <|
  .seq (.region [m 5 (.newRow 1 1)]) <|
  .seq (.seq (.region [m 7 (.mov (t 1)), m 8 (.bin .sub .num (t 7) (.c (i 1))), m 6 (.mov (t 8))]) <|
  .block 0 <| .loop <| .seq (.seq (.region [m 9 (.mov (t 6)), m 10 (.bin .geq .num (t 9) (.c (i 0)))]) <|
  .cond (t 10) (.skip) (.exit 0)) <|
  .seq (.block 1 <| .region [m 13 (.mov (t 5)), m 14 (.mov (t 0)), m 15 (.mov (t 6)), m 16 (.bin .mul .num (.c (i 8)) (t 15)), m 17 (.bin .shr .num (t 14) (t 16)), m 18 (.convInt .u8 (t 17)), m 19 (.buildSlice 2 1 1 [(b 0)] [(0, (t 18))]), m 20 (.append 3 1 1 (t 13) (t 19)), m 5 (.mov (t 20))]) <|
  .region [m 11 (.mov (t 6)), m 12 (.bin .sub .num (t 11) (.c (i 1))), m 6 (.mov (t 12))]) <|
  .seq (.region [m 21 (.mov (t 5)), m 4 (.mov (t 21))]) <|
  .ret
def vf78 : VFun := ⟨22, 4, vb78, [.tmp 4], false⟩
theorem cf78 : cFun Go.Proofs.Tryd.prog rawF false Go.Proofs.Tryd.f78 = some vf78 := by kernel_rfl
theorem T78 {args : List PV} {σ : VHeap} {Post : KP} (h : belH σ.length σ → (∀ c, c ∈ args → bel σ.length c) → vrun Go.Proofs.Tryd.prog σ.length vb78 (argsEnv args) (σ ++ [dd, dd, dd, dd]) (vend vf78 (TrimP σ.length Post))) (hl : args.length ≤ 22 := by exact Nat.le_of_ble_eq_true rfl) : T Go.Proofs.Tryd.prog 78 args σ Post := T.walk Go.Proofs.Tryd.func78 cf78 hl rfl h

/-- vinery/vineryref01.Big -/
@[reducible] def vb79 : VC :=
  .seq (.region [m 2 (.mov (.c (i 0)))]) <|
  .seq (.region [m 3 (.mov (.c (i 0)))]) <|
  .seq (.seq (.region [m 4 (.mov (.c (i 0)))]) <|
  .block 0 <| .loop <| .seq (.seq (.region [m 5 (.mov (t 4)), m 6 (.mov (t 0)), m 7 (.len (t 6)), m 8 (.bin .lss .num (t 5) (t 7))]) <|
  .cond (t 8) (.skip) (.exit 0)) <|
  .seq (.block 1 <| .region [m 11 (.mov (t 3)), m 12 (.bin .mul .num (t 11) (.c (i 256))), m 13 (.mov (t 0)), m 14 (.mov (t 4)), m 15 (.index 1 (t 13) (t 14)), m 16 (.load none (t 15)), m 17 (.convInt .i64 (t 16)), m 18 (.bin .add .num (t 12) (t 17)), m 3 (.mov (t 18))]) <|
  .region [m 9 (.mov (t 4)), m 10 (.bin .add .num (t 9) (.c (i 1))), m 4 (.mov (t 10))]) <|
  .seq (.region [m 19 (.mov (t 3)), m 2 (.mov (t 19))]) <|
  .ret
def vf79 : VFun := ⟨20, 0, vb79, [.tmp 2], false⟩
theorem cf79 : cFun Go.Proofs.Tryd.prog rawF false Go.Proofs.Tryd.f79 = some vf79 := by kernel_rfl
theorem T79 {args : List PV} {σ : VHeap} {Post : KP} (h : belH σ.length σ → (∀ c, c ∈ args → bel σ.length c) → vrun Go.Proofs.Tryd.prog σ.length vb79 (argsEnv args) (σ ++ []) (vend vf79 (TrimP σ.length Post))) (hl : args.length ≤ 20 := by exact Nat.le_of_ble_eq_true rfl) : T Go.Proofs.Tryd.prog 79 args σ Post := T.walk Go.Proofs.Tryd.func79 cf79 hl rfl h

/-- vinery/addr.right -/
@[reducible] def vb80 : VC :=
  .seq (.region [m 1 (.box 0 (t 0)), m 2 (.mov (.c (.bool false)))]) <|
  .seq (.region [m 6 (.field 0 (t 1)), m 7 (.load (some 17) (t 6)), m 8 (.field 17 (t 1)), m 9 (.load none (t 8)), m 10 (.call false 96 [(t 7), (t 9)]), m 5 (.mov (t 10)), m 11 (.extract 0 (t 5)), m 12 (.extract 1 (t 5)), m 3 (.alloc 1 [(i 0), (b 0), (b 0), (b 0), (b 0), (b 0), (b 0), (b 0), (b 0), (b 0), (b 0), (b 0), (b 0), (b 0), (b 0), (b 0), (b 0), (i 0)]), e (.store 18 (t 3) (t 11)), m 4 (.mov (t 12))]) <|
  .seq (.region [m 13 (.mov (t 4)), m 14 (.bin .eql .num (t 13) (.c (i 0))), m 15 (.mov (t 14)), g 16 15 true (.load (some 18) (t 3)), g 17 15 true (.load (some 18) (t 1)), g 18 15 true (.eqAgg [(.i .i64), (.i .u8), (.i .u8), (.i .u8), (.i .u8), (.i .u8), (.i .u8), (.i .u8), (.i .u8), (.i .u8), (.i .u8), (.i .u8), (.i .u8), (.i .u8), (.i .u8), (.i .u8), (.i .u8), (.i .i64)] false (t 16) (t 17)), m 19 (.pick (t 15) (t 18) (.c (.bool false))), m 2 (.mov (t 19))]) <|
  .ret
def vf80 : VFun := ⟨20, 2, vb80, [.tmp 2], false⟩
theorem cf80 : cFun Go.Proofs.Tryd.prog rawF false Go.Proofs.Tryd.f80 = some vf80 := by kernel_rfl
theorem T80 {args : List PV} {σ : VHeap} {Post : KP} (h : belH σ.length σ → (∀ c, c ∈ args → bel σ.length c) → vrun Go.Proofs.Tryd.prog σ.length vb80 (argsEnv args) (σ ++ [dd, dd]) (vend vf80 (TrimP σ.length Post))) (hl : args.length ≤ 20 := by exact Nat.le_of_ble_eq_true rfl) : T Go.Proofs.Tryd.prog 80 args σ Post := T.walk Go.Proofs.Tryd.func80 cf80 hl rfl h

/-- vinery/vineryref02.Right -/
@[reducible] def vb81 : VC :=
  .seq (.region [m 1 (.box 0 (t 0)), m 2 (.mov (.c (.bool false)))]) <|
  .seq (.seq (.region [m 4 (.field 0 (t 1)), m 5 (.load none (t 4)), m 6 (.bin .neq .num (t 5) (.c (i 0))), m 7 (.mov (t 6)), g 8 7 true (.field 0 (t 1)), g 9 7 true (.load none (t 8)), g 10 7 true (.bin .neq .num (t 9) (.c (i 4))), m 11 (.pick (t 7) (t 10) (.c (.bool false))), m 12 (.mov (t 11)), g 13 12 true (.field 0 (t 1)), g 14 12 true (.load none (t 13)), g 15 12 true (.bin .neq .num (t 14) (.c (i 16))), m 16 (.pick (t 12) (t 15) (.c (.bool false)))]) <|
  .cond (t 16) (.seq (.region [m 2 (.mov (.c (.bool false)))]) <|
  .ret) (.skip)) <|
  .seq (.seq (.region [m 17 (.field 0 (t 1)), m 18 (.load none (t 17)), m 3 (.mov (t 18))]) <|
  .block 0 <| .loop <| .seq (.seq (.region [m 19 (.mov (t 3)), m 20 (.bin .lss .num (t 19) (.c (i 16)))]) <|
  .cond (t 20) (.skip) (.exit 0)) <|
  .seq (.block 1 <| .seq (.region [m 23 (.mov (t 3)), m 24 (.field 1 (t 1)), m 25 (.indexArr 16 1 (t 24) (t 23)), m 26 (.load none (t 25)), m 27 (.bin .neq .num (t 26) (.c (b 0)))]) <|
  .cond (t 27) (.seq (.region [m 2 (.mov (.c (.bool false)))]) <|
  .ret) (.skip)) <|
  .region [m 21 (.mov (t 3)), m 22 (.bin .add .num (t 21) (.c (i 1))), m 3 (.mov (t 22))]) <|
  .seq (.region [m 2 (.mov (.c (.bool true)))]) <|
  .ret
def vf81 : VFun := ⟨28, 1, vb81, [.tmp 2], false⟩
theorem cf81 : cFun Go.Proofs.Tryd.prog rawF false Go.Proofs.Tryd.f81 = some vf81 := by kernel_rfl
theorem T81 {args : List PV} {σ : VHeap} {Post : KP} (h : belH σ.length σ → (∀ c, c ∈ args → bel σ.length c) → vrun Go.Proofs.Tryd.prog σ.length vb81 (argsEnv args) (σ ++ [dd]) (vend vf81 (TrimP σ.length Post))) (hl : args.length ≤ 28 := by exact Nat.le_of_ble_eq_true rfl) : T Go.Proofs.Tryd.prog 81 args σ Post := T.walk Go.Proofs.Tryd.func81 cf81 hl rfl h

/-- vinery/vineryref02.bit -/
@[reducible] def vb82 : VC :=
  .seq (.region [m 2 (.box 0 (t 0)), m 4 (.mov (.c (.bool false)))]) <|
  .seq (.region [m 5 (.mov (t 1)), m 6 (.bin .quo .num (t 5) (.c (i 8))), m 7 (.field 1 (t 2)), m 8 (.indexArr 16 1 (t 7) (t 6)), m 9 (.load none (t 8)), m 10 (.mov (t 1)), m 11 (.bin .rem .num (t 10) (.c (i 8))), m 12 (.bin .sub .num (.c (i 7)) (t 11)), m 13 (.bin .shr .num (t 9) (t 12)), m 14 (.bin .rem .num (t 13) (.c (b 2))), m 15 (.bin .eql .num (t 14) (.c (b 1))), m 4 (.mov (t 15))]) <|
  .ret
def vf82 : VFun := ⟨16, 1, vb82, [.tmp 4], false⟩
theorem cf82 : cFun Go.Proofs.Tryd.prog rawF false Go.Proofs.Tryd.f82 = some vf82 := by kernel_rfl
theorem T82 {args : List PV} {σ : VHeap} {Post : KP} (h : belH σ.length σ → (∀ c, c ∈ args → bel σ.length c) → vrun Go.Proofs.Tryd.prog σ.length vb82 (argsEnv args) (σ ++ [dd]) (vend vf82 (TrimP σ.length Post))) (hl : args.length ≤ 16 := by exact Nat.le_of_ble_eq_true rfl) : T Go.Proofs.Tryd.prog 82 args σ Post := T.walk Go.Proofs.Tryd.func82 cf82 hl rfl h

/-- cmp.isNaN[int] -/
@[reducible] def vb83 : VC :=
  .seq (.region [m 2 (.mov (.c (.bool false)))]) <|
  .seq (.region [m 3 (.mov (t 0)), m 4 (.mov (t 0)), m 5 (.bin .neq .num (t 3) (t 4)), m 2 (.mov (t 5))]) <|
  .ret
def vf83 : VFun := ⟨6, 0, vb83, [.tmp 2], false⟩
theorem cf83 : cFun Go.Proofs.Tryd.prog rawF false Go.Proofs.Tryd.f83 = some vf83 := by kernel_rfl
theorem T83 {args : List PV} {σ : VHeap} {Post : KP} (h : belH σ.length σ → (∀ c, c ∈ args → bel σ.length c) → vrun Go.Proofs.Tryd.prog σ.length vb83 (argsEnv args) (σ ++ []) (vend vf83 (TrimP σ.length Post))) (hl : args.length ≤ 6 := by exact Nat.le_of_ble_eq_true rfl) : T Go.Proofs.Tryd.prog 83 args σ Post := T.walk Go.Proofs.Tryd.func83 cf83 hl rfl h

/-- vinery/addr.Right -/
@[reducible] def vb84 : VC :=
  .seq (.region [m 1 (.box 0 (t 0)), m 2 (.mov (.c (.bool false)))]) <|
  .seq (.seq (.region [m 3 (.field 0 (t 1)), m 4 (.load none (t 3))]) <|
  .block 0 <| .seq (.seq (.region [m 6 (.bin .eql .num (t 4) (.c (i 0))), m 5 (.mov (t 6))]) <|
  .cond (t 5) (.skip) (.seq (.region [m 7 (.bin .eql .num (t 4) (.c (i 4))), m 5 (.mov (t 7))]) <|
  .cond (t 5) (.skip) (.region [m 8 (.bin .eql .num (t 4) (.c (i 16))), m 5 (.mov (t 8))]))) <|
  .cond (t 5) (.seq (.region [m 9 (.field 1 (t 1)), m 10 (.field 0 (t 1)), m 11 (.load none (t 10)), m 12 (.sliceArr 16 1 (t 9) (some (t 11)) none), m 13 (.call false 97 [(t 12), (.c (.str [0]))]), m 14 (.len (t 13)), m 15 (.bin .eql .num (t 14) (.c (i 0))), m 2 (.mov (t 15))]) <|
  .ret) (.skip)) <|
  .seq (.region [m 2 (.mov (.c (.bool false)))]) <|
  .ret
def vf84 : VFun := ⟨16, 1, vb84, [.tmp 2], false⟩
theorem cf84 : cFun Go.Proofs.Tryd.prog rawF false Go.Proofs.Tryd.f84 = some vf84 := by kernel_rfl
theorem T84 {args : List PV} {σ : VHeap} {Post : KP} (h : belH σ.length σ → (∀ c, c ∈ args → bel σ.length c) → vrun Go.Proofs.Tryd.prog σ.length vb84 (argsEnv args) (σ ++ [dd]) (vend vf84 (TrimP σ.length Post))) (hl : args.length ≤ 16 := by exact Nat.le_of_ble_eq_true rfl) : T Go.Proofs.Tryd.prog 84 args σ Post := T.walk Go.Proofs.Tryd.func84 cf84 hl rfl h

/-- vinery/addr.Multicast -/
@[reducible] def vb85 : VC :=
  .seq (.region [m 1 (.box 0 (t 0)), m 2 (.mov (.c (.bool false)))]) <|
  .seq (.block 0 <| .seq (.region [m 4 (.load (some 17) (t 1)), m 5 (.call false 84 [(t 4)]), m 6 (.un .not (t 5)), m 3 (.mov (t 6))]) <|
  .cond (t 3) (.seq (.region [m 2 (.mov (.c (.bool false)))]) <|
  .ret) (.seq (.region [m 8 (.field 0 (t 1)), m 9 (.load none (t 8)), m 10 (.bin .eql .num (t 9) (.c (i 4))), m 7 (.mov (t 10))]) <|
  .cond (t 7) (.seq (.region [m 11 (.field 1 (t 1)), m 12 (.indexArr 16 1 (t 11) (.c (i 0))), m 13 (.load none (t 12)), m 14 (.bin .shr .num (t 13) (.c (.int .u64 4))), m 15 (.bin .eql .num (t 14) (.c (b 14))), m 2 (.mov (t 15))]) <|
  .ret) (.skip))) <|
  .seq (.region [m 16 (.field 0 (t 1)), m 17 (.load none (t 16)), m 18 (.bin .eql .num (t 17) (.c (i 16))), m 19 (.mov (t 18)), g 20 19 true (.field 1 (t 1)), g 21 19 true (.indexArr 16 1 (t 20) (.c (i 0))), g 22 19 true (.load none (t 21)), g 23 19 true (.bin .eql .num (t 22) (.c (b 255))), m 24 (.pick (t 19) (t 23) (.c (.bool false))), m 2 (.mov (t 24))]) <|
  .ret
def vf85 : VFun := ⟨25, 1, vb85, [.tmp 2], false⟩
theorem cf85 : cFun Go.Proofs.Tryd.prog rawF false Go.Proofs.Tryd.f85 = some vf85 := by kernel_rfl
theorem T85 {args : List PV} {σ : VHeap} {Post : KP} (h : belH σ.length σ → (∀ c, c ∈ args → bel σ.length c) → vrun Go.Proofs.Tryd.prog σ.length vb85 (argsEnv args) (σ ++ [dd]) (vend vf85 (TrimP σ.length Post))) (hl : args.length ≤ 25 := by exact Nat.le_of_ble_eq_true rfl) : T Go.Proofs.Tryd.prog 85 args σ Post := T.walk Go.Proofs.Tryd.func85 cf85 hl rfl h

/-- bytes.Compare -/
@[reducible] def vb86 : VC :=
  .seq (.region [m 4 (.mov (.c (i 0)))]) <|
  .seq (.region [m 5 (.mov (t 0)), m 6 (.mov (t 1)), m 7 (.ext 98 [(t 5), (t 6)]), m 4 (.mov (t 7))]) <|
  .ret
def vf86 : VFun := ⟨8, 0, vb86, [.tmp 4], false⟩
theorem cf86 : cFun Go.Proofs.Tryd.prog rawF false Go.Proofs.Tryd.f86 = some vf86 := by kernel_rfl
theorem T86 {args : List PV} {σ : VHeap} {Post : KP} (h : belH σ.length σ → (∀ c, c ∈ args → bel σ.length c) → vrun Go.Proofs.Tryd.prog σ.length vb86 (argsEnv args) (σ ++ []) (vend vf86 (TrimP σ.length Post))) (hl : args.length ≤ 8 := by exact Nat.le_of_ble_eq_true rfl) : T Go.Proofs.Tryd.prog 86 args σ Post := T.walk Go.Proofs.Tryd.func86 cf86 hl rfl h

/-- vinery/rd.Parts -/
@[reducible] def vb88 : VC :=
  .seq (.region [m 1 (.box 0 (t 0)), m 2 (.mov (.c (i 0))), m 3 (.mov (.c (i 0))), m 4 (.mov (.c (i 0))), m 5 (.mov (.c (.bool false)))]) <|
  .seq (.region [m 8 (.sliceArr 8 1 (t 1) none none), m 9 (.call false 43 [(t 8)]), m 6 (.mov (t 9))]) <|
  .seq (.region [m 10 (.mov (t 6)), m 11 (.call false 44 [(t 10), (.c (i 2))]), m 2 (.mov (t 11))]) <|
  .seq (.region [m 13 (.mov (t 2)), m 14 (.call false 100 [(t 13)]), m 12 (.mov (t 14)), m 15 (.extract 0 (t 12)), m 16 (.extract 1 (t 12)), m 7 (.mov (t 15)), m 5 (.mov (t 16))]) <|
  .seq (.seq (.region [m 17 (.mov (t 5)), m 18 (.un .not (t 17))]) <|
  .cond (t 18) (.seq (.region [m 2 (.mov (.c (i 0))), m 3 (.mov (.c (i 0))), m 4 (.mov (.c (i 0))), m 5 (.mov (.c (.bool false)))]) <|
  .ret) (.skip)) <|
  .seq (.region [m 19 (.mov (t 6)), m 20 (.mov (t 7)), m 21 (.call false 44 [(t 19), (t 20)]), m 3 (.mov (t 21))]) <|
  .seq (.region [m 22 (.mov (t 2)), m 23 (.mov (t 3)), m 24 (.mov (t 6)), m 25 (.mov (t 6)), m 26 (.nilCheck (t 25)), m 27 (.field 0 (t 26)), m 28 (.call false 49 [(t 27)]), m 29 (.call false 44 [(t 24), (t 28)]), m 2 (.mov (t 22)), m 3 (.mov (t 23)), m 4 (.mov (t 29)), m 5 (.mov (.c (.bool true)))]) <|
  .ret
def vf88 : VFun := ⟨30, 1, vb88, [.tmp 2, .tmp 3, .tmp 4, .tmp 5], false⟩
theorem cf88 : cFun Go.Proofs.Tryd.prog rawF false Go.Proofs.Tryd.f88 = some vf88 := by kernel_rfl
theorem T88 {args : List PV} {σ : VHeap} {Post : KP} (h : belH σ.length σ → (∀ c, c ∈ args → bel σ.length c) → vrun Go.Proofs.Tryd.prog σ.length vb88 (argsEnv args) (σ ++ [dd]) (vend vf88 (TrimP σ.length Post))) (hl : args.length ≤ 30 := by exact Nat.le_of_ble_eq_true rfl) : T Go.Proofs.Tryd.prog 88 args σ Post := T.walk Go.Proofs.Tryd.func88 cf88 hl rfl h

/-- vinery/addr.Of -/
@[reducible] def vb89 : VC :=
  .seq (.region [m 2 (.alloc 0 [(i 0), (b 0), (b 0), (b 0), (b 0), (b 0), (b 0), (b 0), (b 0), (b 0), (b 0), (b 0), (b 0), (b 0), (b 0), (b 0), (b 0)]), m 3 (.mov (.c (i 0)))]) <|
  .seq (.seq (.region [m 5 (.mov (t 0)), m 6 (.len (t 5))]) <|
  .block 0 <| .seq (.seq (.region [m 8 (.bin .eql .num (t 6) (.c (i 0))), m 7 (.mov (t 8))]) <|
  .cond (t 7) (.skip) (.seq (.region [m 9 (.bin .eql .num (t 6) (.c (i 4))), m 7 (.mov (t 9))]) <|
  .cond (t 7) (.skip) (.region [m 10 (.bin .eql .num (t 6) (.c (i 16))), m 7 (.mov (t 10))]))) <|
  .cond (t 7) (.seq (.region [m 11 (.mov (t 0)), m 12 (.len (t 11)), m 13 (.build [(i 0), (b 0), (b 0), (b 0), (b 0), (b 0), (b 0), (b 0), (b 0), (b 0), (b 0), (b 0), (b 0), (b 0), (b 0), (b 0), (b 0)] [(0, 1, (t 12))]), m 4 (.alloc 1 [(i 0), (b 0), (b 0), (b 0), (b 0), (b 0), (b 0), (b 0), (b 0), (b 0), (b 0), (b 0), (b 0), (b 0), (b 0), (b 0), (b 0)]), e (.store 17 (t 4) (t 13))]) <|
  .seq (.region [m 14 (.field 1 (t 4)), m 15 (.sliceArr 16 1 (t 14) none none), m 16 (.mov (t 0)), m 17 (.copyTo 1 (t 15) (t 16))]) <|
  .seq (.region [m 18 (.load (some 17) (t 4)), e (.store 17 (t 2) (t 18)), m 3 (.mov (.c (i 0)))]) <|
  .ret) (.skip)) <|
  .seq (.region [m 19 (.build [(i 0), (b 0), (b 0), (b 0), (b 0), (b 0), (b 0), (b 0), (b 0), (b 0), (b 0), (b 0), (b 0), (b 0), (b 0), (b 0), (b 0)] []), e (.store 17 (t 2) (t 19)), m 3 (.mov (.c (i 1)))]) <|
  .ret
def vf89 : VFun := ⟨20, 2, vb89, [.cell 2 (some 17), .tmp 3], false⟩
theorem cf89 : cFun Go.Proofs.Tryd.prog rawF false Go.Proofs.Tryd.f89 = some vf89 := by kernel_rfl
theorem T89 {args : List PV} {σ : VHeap} {Post : KP} (h : belH σ.length σ → (∀ c, c ∈ args → bel σ.length c) → vrun Go.Proofs.Tryd.prog σ.length vb89 (argsEnv args) (σ ++ [dd, dd]) (vend vf89 (TrimP σ.length Post))) (hl : args.length ≤ 20 := by exact Nat.le_of_ble_eq_true rfl) : T Go.Proofs.Tryd.prog 89 args σ Post := T.walk Go.Proofs.Tryd.func89 cf89 hl rfl h

/-- vinery/addr.text6 -/
@[reducible] def vb90 : VC :=
  .seq (.region [m 1 (.box 0 (t 0)), m 2 (.mov (.c (.str [])))]) <|
  .seq (.region [m 6 (.load (some 17) (t 1)), m 7 (.call false 101 [(t 6)]), m 3 (.alloc 1 [(i 0), (i 0), (i 0), (i 0), (i 0), (i 0), (i 0), (i 0)]), e (.store 8 (t 3) (t 7))]) <|
  .seq (.region [m 9 (.load (some 8) (t 3)), m 10 (.call false 102 [(t 9)]), m 8 (.mov (t 10)), m 11 (.extract 0 (t 8)), m 12 (.extract 1 (t 8)), m 4 (.mov (t 11)), m 5 (.mov (t 12))]) <|
  .seq (.seq (.region [m 13 (.mov (t 5)), m 14 (.bin .lss .num (t 13) (.c (i 2)))]) <|
  .cond (t 14) (.seq (.region [m 15 (.sliceArr 8 1 (t 3) none none), m 16 (.call false 103 [(t 15)]), m 2 (.mov (t 16))]) <|
  .ret) (.skip)) <|
  .seq (.dreg [(m 17 (.mov (t 4)), []), (m 18 (.sliceArr 8 1 (t 3) none (some (t 17))), [0]), (m 19 (.call false 103 [(t 18)]), [1]), (m 20 (.bin .add .num (t 19) (.c (.str [58, 58]))), [2]), (m 21 (.mov (t 4)), []), (m 22 (.mov (t 5)), []), (m 23 (.bin .add .num (t 21) (t 22)), [4, 5]), (m 24 (.sliceArr 8 1 (t 3) (some (t 23)) none), [6]), (m 25 (.call false 103 [(t 24)]), [7, 2]), (m 26 (.bin .add .num (t 20) (t 25)), [3, 8]), (m 2 (.mov (t 26)), [9, 8, 0, 1, 2, 3, 4, 5, 6, 7, 8, 9])] [(2, 0), (1, 1), (1, 2), (2, 3), (2, 4), (2, 5), (2, 6), (1, 7), (1, 8), (2, 9), (2, 10)] [0, 1, 3, 7, 0, 0, 48, 112, 247, 511, 1023]) <|
  .ret
def vf90 : VFun := ⟨27, 2, vb90, [.tmp 2], false⟩
theorem cf90 : cFun Go.Proofs.Tryd.prog rawF false Go.Proofs.Tryd.f90 = some vf90 := by kernel_rfl
theorem T90 {args : List PV} {σ : VHeap} {Post : KP} (h : belH σ.length σ → (∀ c, c ∈ args → bel σ.length c) → vrun Go.Proofs.Tryd.prog σ.length vb90 (argsEnv args) (σ ++ [dd, dd]) (vend vf90 (TrimP σ.length Post))) (hl : args.length ≤ 27 := by exact Nat.le_of_ble_eq_true rfl) : T Go.Proofs.Tryd.prog 90 args σ Post := T.walk Go.Proofs.Tryd.func90 cf90 hl rfl h

/-- vinery/addr.Cut -/
@[reducible] def vb96 : VC :=
  .seq (.region [m 2 (.box 0 (t 0)), m 4 (.alloc 1 [(i 0), (b 0), (b 0), (b 0), (b 0), (b 0), (b 0), (b 0), (b 0), (b 0), (b 0), (b 0), (b 0), (b 0), (b 0), (b 0), (b 0), (i 0)]), m 5 (.mov (.c (i 0)))]) <|
  .seq (.seq (.region [m 6 (.load (some 17) (t 2)), m 7 (.call false 84 [(t 6)]), m 8 (.un .not (t 7)), m 9 (.mov (t 8)), g 10 9 false (.field 0 (t 2)), g 11 9 false (.load none (t 10)), g 12 9 false (.bin .eql .num (t 11) (.c (i 0))), m 13 (.pick (t 9) (.c (.bool true)) (t 12)), m 14 (.mov (t 13)), g 15 14 false (.mov (t 1)), g 16 14 false (.bin .lss .num (t 15) (.c (i 0))), m 17 (.pick (t 14) (.c (.bool true)) (t 16)), m 18 (.mov (t 17)), g 19 18 false (.mov (t 1)), g 20 18 false (.field 0 (t 2)), g 21 18 false (.load none (t 20)), g 22 18 false (.bin .mul .num (.c (i 8)) (t 21)), g 23 18 false (.bin .gtr .num (t 19) (t 22)), m 24 (.pick (t 18) (.c (.bool true)) (t 23))]) <|
  .cond (t 24) (.seq (.region [m 25 (.build [(i 0), (b 0), (b 0), (b 0), (b 0), (b 0), (b 0), (b 0), (b 0), (b 0), (b 0), (b 0), (b 0), (b 0), (b 0), (b 0), (b 0), (i 0)] []), e (.store 18 (t 4) (t 25)), m 5 (.mov (.c (i 1)))]) <|
  .ret) (.skip)) <|
  .seq (.region [m 26 (.load (some 17) (t 2)), m 27 (.mov (t 1)), m 28 (.call false 106 [(t 26), (t 27)]), m 29 (.mov (t 1)), m 30 (.build [(i 0), (b 0), (b 0), (b 0), (b 0), (b 0), (b 0), (b 0), (b 0), (b 0), (b 0), (b 0), (b 0), (b 0), (b 0), (b 0), (b 0), (i 0)] [(0, 17, (t 28)), (17, 1, (t 29))]), e (.store 18 (t 4) (t 30)), m 5 (.mov (.c (i 0)))]) <|
  .ret
def vf96 : VFun := ⟨31, 2, vb96, [.cell 4 (some 18), .tmp 5], false⟩
theorem cf96 : cFun Go.Proofs.Tryd.prog rawF false Go.Proofs.Tryd.f96 = some vf96 := by kernel_rfl
theorem T96 {args : List PV} {σ : VHeap} {Post : KP} (h : belH σ.length σ → (∀ c, c ∈ args → bel σ.length c) → vrun Go.Proofs.Tryd.prog σ.length vb96 (argsEnv args) (σ ++ [dd, dd]) (vend vf96 (TrimP σ.length Post))) (hl : args.length ≤ 31 := by exact Nat.le_of_ble_eq_true rfl) : T Go.Proofs.Tryd.prog 96 args σ Post := T.walk Go.Proofs.Tryd.func96 cf96 hl rfl h

/-- bytes.Trim -/
@[reducible] def vb97 : VC :=
  .seq (.region [m 4 (.newRow 0 1)]) <|
  .seq (.seq (.region [m 7 (.mov (t 0)), m 8 (.len (t 7)), m 9 (.bin .eql .num (t 8) (.c (i 0)))]) <|
  .cond (t 9) (.seq (.region [m 4 (.newRow 0 1)]) <|
  .ret) (.skip)) <|
  .seq (.seq (.region [m 10 (.mov (t 1)), m 11 (.bin .eql .num (t 10) (.c (.str [])))]) <|
  .cond (t 11) (.seq (.region [m 12 (.mov (t 0)), m 4 (.mov (t 12))]) <|
  .ret) (.skip)) <|
  .seq (.seq (.region [m 13 (.mov (t 1)), m 14 (.lenStr (t 13)), m 15 (.bin .eql .num (t 14) (.c (i 1))), m 16 (.mov (t 15)), g 17 16 true (.mov (t 1)), g 18 16 true (.indexStr (t 17) (.c (i 0))), g 19 16 true (.bin .lss .num (t 18) (.c (b 128))), m 20 (.pick (t 16) (t 19) (.c (.bool false)))]) <|
  .cond (t 20) (.seq (.dreg [(m 21 (.mov (t 0)), []), (m 22 (.mov (t 1)), []), (m 23 (.indexStr (t 22) (.c (i 0))), [1]), (m 24 (.call false 108 [(t 21), (t 23)]), [0, 2]), (m 25 (.mov (t 1)), []), (m 26 (.indexStr (t 25) (.c (i 0))), [4]), (m 27 (.call false 107 [(t 24), (t 26)]), [3, 5, 3]), (m 4 (.mov (t 27)), [6, 6, 0, 1, 2, 3, 4, 5, 6])] [(2, 0), (2, 1), (2, 2), (1, 3), (2, 4), (2, 5), (1, 6), (2, 7)] [0, 0, 2, 7, 0, 16, 63, 127]) <|
  .ret) (.skip)) <|
  .seq (.seq (.region [m 29 (.mov (t 1)), m 30 (.call false 109 [(t 29)]), m 28 (.mov (t 30)), m 31 (.extract 0 (t 28)), m 32 (.extract 1 (t 28)), m 5 (.alloc 1 (List.replicate 256 (.bool false))), e (.store 256 (t 5) (t 31)), m 6 (.mov (t 32))]) <|
  .seq (.region [m 33 (.mov (t 6))]) <|
  .cond (t 33) (.seq (.region [m 34 (.mov (t 0)), m 35 (.call false 111 [(t 34), (t 5)]), m 36 (.call false 110 [(t 35), (t 5)]), m 4 (.mov (t 36))]) <|
  .ret) (.skip)) <|
  .seq (.region [m 37 (.mov (t 0)), m 38 (.mov (t 1)), m 39 (.call false 113 [(t 37), (t 38)]), m 40 (.mov (t 1)), m 41 (.call false 112 [(t 39), (t 40)]), m 4 (.mov (t 41))]) <|
  .ret
def vf97 : VFun := ⟨42, 2, vb97, [.tmp 4], false⟩
theorem cf97 : cFun Go.Proofs.Tryd.prog rawF false Go.Proofs.Tryd.f97 = some vf97 := by kernel_rfl
theorem T97 {args : List PV} {σ : VHeap} {Post : KP} (h : belH σ.length σ → (∀ c, c ∈ args → bel σ.length c) → vrun Go.Proofs.Tryd.prog σ.length vb97 (argsEnv args) (σ ++ [dd, dd]) (vend vf97 (TrimP σ.length Post))) (hl : args.length ≤ 42 := by exact Nat.le_of_ble_eq_true rfl) : T Go.Proofs.Tryd.prog 97 args σ Post := T.walk Go.Proofs.Tryd.func97 cf97 hl rfl h

/-- vinery/rd.highSize -/
@[reducible] def vb100 : VC :=
  .seq (.region [m 2 (.mov (.c (i 0))), m 3 (.mov (.c (.bool false)))]) <|
  .seq (.seq (.region [m 4 (.mov (t 0))]) <|
  .block 0 <| .seq (.region [m 6 (.bin .eql .num (t 4) (.c (i 0))), m 5 (.mov (t 6))]) <|
  .cond (t 5) (.seq (.region [m 2 (.mov (.c (i 2))), m 3 (.mov (.c (.bool true)))]) <|
  .ret) (.seq (.seq (.region [m 8 (.bin .eql .num (t 4) (.c (i 1))), m 7 (.mov (t 8))]) <|
  .cond (t 7) (.skip) (.region [m 9 (.bin .eql .num (t 4) (.c (i 2))), m 7 (.mov (t 9))])) <|
  .cond (t 7) (.seq (.region [m 2 (.mov (.c (i 4))), m 3 (.mov (.c (.bool true)))]) <|
  .ret) (.skip))) <|
  .seq (.region [m 2 (.mov (.c (i 0))), m 3 (.mov (.c (.bool false)))]) <|
  .ret
def vf100 : VFun := ⟨10, 0, vb100, [.tmp 2, .tmp 3], false⟩
theorem cf100 : cFun Go.Proofs.Tryd.prog rawF false Go.Proofs.Tryd.f100 = some vf100 := by kernel_rfl
theorem T100 {args : List PV} {σ : VHeap} {Post : KP} (h : belH σ.length σ → (∀ c, c ∈ args → bel σ.length c) → vrun Go.Proofs.Tryd.prog σ.length vb100 (argsEnv args) (σ ++ []) (vend vf100 (TrimP σ.length Post))) (hl : args.length ≤ 10 := by exact Nat.le_of_ble_eq_true rfl) : T Go.Proofs.Tryd.prog 100 args σ Post := T.walk Go.Proofs.Tryd.func100 cf100 hl rfl h

/-- vinery/addr.numbers -/
@[reducible] def vb101 : VC :=
  .seq (.region [m 1 (.box 0 (t 0)), m 2 (.alloc 1 [(i 0), (i 0), (i 0), (i 0), (i 0), (i 0), (i 0), (i 0)])]) <|
  .seq (.seq (.region [m 4 (.mov (.c (i 0)))]) <|
  .block 0 <| .loop <| .seq (.region [m 5 (.bin .lss .num (t 4) (.c (i 8)))]) <|
  .seq (.cond (t 5) (.skip) (.exit 0)) <|
  .seq (.block 1 <| .seq (.region [m 6 (.mov (t 4)), m 3 (.mov (t 6))]) <|
  .dreg [(m 7 (.mov (t 3)), []), (m 8 (.mov (t 3)), []), (m 9 (.bin .mul .num (.c (i 2)) (t 8)), [1]), (m 10 (.field 1 (t 1)), []), (m 11 (.indexArr 16 1 (t 10) (t 9)), [3, 2]), (m 12 (.load none (t 11)), [4]), (m 13 (.convInt .i64 (t 12)), [5]), (m 14 (.bin .shl .num (t 13) (.c (.int .u64 8))), [6]), (m 15 (.mov (t 3)), []), (m 16 (.bin .mul .num (.c (i 2)) (t 15)), [8]), (m 17 (.bin .add .num (t 16) (.c (i 1))), [9]), (m 18 (.field 1 (t 1)), []), (m 19 (.indexArr 16 1 (t 18) (t 17)), [11, 10]), (m 20 (.load none (t 19)), [12]), (m 21 (.convInt .i64 (t 20)), [13]), (m 22 (.bin .or .num (t 14) (t 21)), [7, 14]), (m 23 (.indexArr 8 1 (t 2) (t 7)), [0, 0, 1, 2, 3, 4, 5, 6, 7, 8, 9, 10, 11, 12, 13, 14, 15]), (e (.store 1 (t 23) (t 22)), [16, 15, 0, 1, 2, 3, 4, 5, 6, 7, 8, 9, 10, 11, 12, 13, 14, 15])] [(2, 0), (2, 1), (2, 2), (1, 3), (1, 4), (1, 5), (2, 6), (2, 7), (2, 8), (2, 9), (2, 10), (1, 11), (1, 12), (1, 13), (2, 14), (2, 15), (1, 16), (0, 17)] [0, 0, 2, 0, 14, 30, 62, 126, 0, 256, 768, 0, 3840, 7936, 16128, 32766, 65535, 131071]) <|
  .region [m 24 (.bin .add .num (t 4) (.c (i 1))), m 4 (.mov (t 24))]) <|
  .seq (.region [m 25 (.load (some 8) (t 2)), e (.store 8 (t 2) (t 25))]) <|
  .ret
def vf101 : VFun := ⟨26, 2, vb101, [.cell 2 (some 8)], false⟩
theorem cf101 : cFun Go.Proofs.Tryd.prog rawF false Go.Proofs.Tryd.f101 = some vf101 := by kernel_rfl
theorem T101 {args : List PV} {σ : VHeap} {Post : KP} (h : belH σ.length σ → (∀ c, c ∈ args → bel σ.length c) → vrun Go.Proofs.Tryd.prog σ.length vb101 (argsEnv args) (σ ++ [dd, dd]) (vend vf101 (TrimP σ.length Post))) (hl : args.length ≤ 26 := by exact Nat.le_of_ble_eq_true rfl) : T Go.Proofs.Tryd.prog 101 args σ Post := T.walk Go.Proofs.Tryd.func101 cf101 hl rfl h

/-- vinery/addr.gap -/
@[reducible] def vb102 : VC :=
  .seq (.region [m 1 (.box 0 (t 0)), m 2 (.mov (.c (i 0))), m 3 (.mov (.c (i 0)))]) <|
  .seq (.seq (.region [m 6 (.mov (.c (i 0)))]) <|
  .block 0 <| .loop <| .seq (.region [m 7 (.bin .lss .num (t 6) (.c (i 8)))]) <|
  .seq (.cond (t 7) (.skip) (.exit 0)) <|
  .seq (.block 1 <| .seq (.region [m 8 (.mov (t 6)), m 4 (.mov (t 8))]) <|
  .seq (.region [m 5 (.mov (.c (i 0)))]) <|
  .seq (.block 2 <| .loop <| .seq (.seq (.region [m 9 (.mov (t 4)), m 10 (.mov (t 5)), m 11 (.bin .add .num (t 9) (t 10)), m 12 (.bin .lss .num (t 11) (.c (i 8))), m 13 (.mov (t 12)), g 14 13 true (.mov (t 4)), g 15 13 true (.mov (t 5)), g 16 13 true (.bin .add .num (t 14) (t 15)), g 17 13 true (.indexArr 8 1 (t 1) (t 16)), g 18 13 true (.load none (t 17)), g 19 13 true (.bin .eql .num (t 18) (.c (i 0))), m 20 (.pick (t 13) (t 19) (.c (.bool false)))]) <|
  .cond (t 20) (.skip) (.exit 2)) <|
  .block 3 <| .region [m 21 (.mov (t 5)), m 22 (.bin .add .num (t 21) (.c (i 1))), m 5 (.mov (t 22))]) <|
  .seq (.region [m 23 (.mov (t 5)), m 24 (.mov (t 3)), m 25 (.bin .gtr .num (t 23) (t 24))]) <|
  .cond (t 25) (.region [m 26 (.mov (t 4)), m 27 (.mov (t 5)), m 2 (.mov (t 26)), m 3 (.mov (t 27))]) (.skip)) <|
  .region [m 28 (.bin .add .num (t 6) (.c (i 1))), m 6 (.mov (t 28))]) <|
  .seq (.region [m 29 (.mov (t 2)), m 30 (.mov (t 3)), m 2 (.mov (t 29)), m 3 (.mov (t 30))]) <|
  .ret
def vf102 : VFun := ⟨31, 1, vb102, [.tmp 2, .tmp 3], false⟩
theorem cf102 : cFun Go.Proofs.Tryd.prog rawF false Go.Proofs.Tryd.f102 = some vf102 := by kernel_rfl
theorem T102 {args : List PV} {σ : VHeap} {Post : KP} (h : belH σ.length σ → (∀ c, c ∈ args → bel σ.length c) → vrun Go.Proofs.Tryd.prog σ.length vb102 (argsEnv args) (σ ++ [dd]) (vend vf102 (TrimP σ.length Post))) (hl : args.length ≤ 31 := by exact Nat.le_of_ble_eq_true rfl) : T Go.Proofs.Tryd.prog 102 args σ Post := T.walk Go.Proofs.Tryd.func102 cf102 hl rfl h

/-- vinery/addr.written -/
@[reducible] def vb103 : VC :=
  .seq (.region [m 2 (.mov (.c (.str [])))]) <|
  .seq (.region [m 3 (.newRow 0 1)]) <|
  .seq (.seq (.region [m 6 (.mov (t 0)), m 7 (.len (t 6)), m 8 (.mov (.c (i 0)))]) <|
  .block 0 <| .loop <| .seq (.region [m 9 (.bin .lss .num (t 8) (t 7))]) <|
  .seq (.cond (t 9) (.skip) (.exit 0)) <|
  .seq (.block 1 <| .seq (.region [m 10 (.index 1 (t 6) (t 8)), m 11 (.load none (t 10)), m 5 (.mov (t 11))]) <|
  .region [m 12 (.mov (t 3)), m 13 (.mov (t 5)), m 14 (.call false 118 [(t 13), (.c (i 16))]), m 15 (.buildSlice 1 1 1 [(.str [])] [(0, (t 14))]), m 16 (.append 2 1 16 (t 12) (t 15)), m 3 (.mov (t 16))]) <|
  .region [m 17 (.bin .add .num (t 8) (.c (i 1))), m 8 (.mov (t 17))]) <|
  .seq (.region [m 18 (.mov (t 3)), m 19 (.call false 73 [(t 18), (.c (.str [58]))]), m 2 (.mov (t 19))]) <|
  .ret
def vf103 : VFun := ⟨20, 3, vb103, [.tmp 2], false⟩
theorem cf103 : cFun Go.Proofs.Tryd.prog rawF false Go.Proofs.Tryd.f103 = some vf103 := by kernel_rfl
theorem T103 {args : List PV} {σ : VHeap} {Post : KP} (h : belH σ.length σ → (∀ c, c ∈ args → bel σ.length c) → vrun Go.Proofs.Tryd.prog σ.length vb103 (argsEnv args) (σ ++ [dd, dd, dd]) (vend vf103 (TrimP σ.length Post))) (hl : args.length ≤ 20 := by exact Nat.le_of_ble_eq_true rfl) : T Go.Proofs.Tryd.prog 103 args σ Post := T.walk Go.Proofs.Tryd.func103 cf103 hl rfl h

/-- vinery/addr.cut -/
@[reducible] def vb106 : VC :=
  .seq (.region [m 2 (.box 0 (t 0)), m 4 (.alloc 1 [(i 0), (b 0), (b 0), (b 0), (b 0), (b 0), (b 0), (b 0), (b 0), (b 0), (b 0), (b 0), (b 0), (b 0), (b 0), (b 0), (b 0)])]) <|
  .seq (.seq (.region [m 6 (.mov (.c (i 0)))]) <|
  .block 0 <| .loop <| .seq (.region [m 7 (.bin .lss .num (t 6) (.c (i 16)))]) <|
  .seq (.cond (t 7) (.skip) (.exit 0)) <|
  .seq (.block 1 <| .seq (.region [m 8 (.mov (t 6)), m 5 (.mov (t 8))]) <|
  .dreg [(m 9 (.mov (t 5)), []), (m 10 (.field 1 (t 2)), []), (m 11 (.indexArr 16 1 (t 10) (t 9)), [1, 0]), (m 12 (.load none (t 11)), [2]), (m 13 (.mov (t 1)), []), (m 14 (.mov (t 5)), []), (m 15 (.bin .mul .num (.c (i 8)) (t 14)), [5]), (m 16 (.bin .sub .num (t 13) (t 15)), [4, 6]), (m 17 (.call false 121 [(t 16)]), [7]), (m 18 (.bin .and .num (t 12) (t 17)), [3, 8]), (m 19 (.field 1 (t 2)), []), (m 20 (.indexArr 16 1 (t 19) (t 9)), [10, 0, 0, 1, 2, 3, 4, 5, 6, 7, 8, 9]), (e (.store 1 (t 20) (t 18)), [11, 9, 8, 0, 1, 2, 3, 4, 5, 6, 7, 8, 9])] [(2, 0), (1, 1), (1, 2), (1, 3), (2, 4), (2, 5), (2, 6), (2, 7), (1, 8), (2, 9), (1, 10), (1, 11), (0, 12)] [0, 0, 3, 7, 0, 0, 32, 112, 240, 511, 0, 2047, 4095]) <|
  .region [m 21 (.bin .add .num (t 6) (.c (i 1))), m 6 (.mov (t 21))]) <|
  .seq (.region [m 22 (.load (some 17) (t 2)), e (.store 17 (t 4) (t 22))]) <|
  .ret
def vf106 : VFun := ⟨23, 2, vb106, [.cell 4 (some 17)], false⟩
theorem cf106 : cFun Go.Proofs.Tryd.prog rawF false Go.Proofs.Tryd.f106 = some vf106 := by kernel_rfl
theorem T106 {args : List PV} {σ : VHeap} {Post : KP} (h : belH σ.length σ → (∀ c, c ∈ args → bel σ.length c) → vrun Go.Proofs.Tryd.prog σ.length vb106 (argsEnv args) (σ ++ [dd, dd]) (vend vf106 (TrimP σ.length Post))) (hl : args.length ≤ 23 := by exact Nat.le_of_ble_eq_true rfl) : T Go.Proofs.Tryd.prog 106 args σ Post := T.walk Go.Proofs.Tryd.func106 cf106 hl rfl h

/-- bytes.trimLeftByte -/
@[reducible] def vb107 : VC :=
  .seq (.region [m 4 (.newRow 0 1)]) <|
  .seq (.block 0 <| .loop <| .seq (.seq (.region [m 5 (.mov (t 0)), m 6 (.len (t 5)), m 7 (.bin .gtr .num (t 6) (.c (i 0))), m 8 (.mov (t 7)), g 9 8 true (.mov (t 0)), g 10 8 true (.index 1 (t 9) (.c (i 0))), g 11 8 true (.load none (t 10)), g 12 8 true (.mov (t 1)), g 13 8 true (.bin .eql .num (t 11) (t 12)), m 14 (.pick (t 8) (t 13) (.c (.bool false)))]) <|
  .cond (t 14) (.skip) (.exit 0)) <|
  .block 1 <| .region [m 15 (.mov (t 0)), m 16 (.slice 1 (t 15) (some (.c (i 1))) none), m 0 (.mov (t 16))]) <|
  .seq (.seq (.region [m 17 (.mov (t 0)), m 18 (.len (t 17)), m 19 (.bin .eql .num (t 18) (.c (i 0)))]) <|
  .cond (t 19) (.seq (.region [m 4 (.newRow 0 1)]) <|
  .ret) (.skip)) <|
  .seq (.region [m 20 (.mov (t 0)), m 4 (.mov (t 20))]) <|
  .ret
def vf107 : VFun := ⟨21, 1, vb107, [.tmp 4], false⟩
theorem cf107 : cFun Go.Proofs.Tryd.prog rawF false Go.Proofs.Tryd.f107 = some vf107 := by kernel_rfl
theorem T107 {args : List PV} {σ : VHeap} {Post : KP} (h : belH σ.length σ → (∀ c, c ∈ args → bel σ.length c) → vrun Go.Proofs.Tryd.prog σ.length vb107 (argsEnv args) (σ ++ [dd]) (vend vf107 (TrimP σ.length Post))) (hl : args.length ≤ 21 := by exact Nat.le_of_ble_eq_true rfl) : T Go.Proofs.Tryd.prog 107 args σ Post := T.walk Go.Proofs.Tryd.func107 cf107 hl rfl h

/-- bytes.trimRightByte -/
@[reducible] def vb108 : VC :=
  .seq (.region [m 4 (.newRow 0 1)]) <|
  .seq (.block 0 <| .loop <| .seq (.seq (.region [m 5 (.mov (t 0)), m 6 (.len (t 5)), m 7 (.bin .gtr .num (t 6) (.c (i 0))), m 8 (.mov (t 7)), g 9 8 true (.mov (t 0)), g 10 8 true (.mov (t 0)), g 11 8 true (.len (t 10)), g 12 8 true (.bin .sub .num (t 11) (.c (i 1))), g 13 8 true (.index 1 (t 9) (t 12)), g 14 8 true (.load none (t 13)), g 15 8 true (.mov (t 1)), g 16 8 true (.bin .eql .num (t 14) (t 15)), m 17 (.pick (t 8) (t 16) (.c (.bool false)))]) <|
  .cond (t 17) (.skip) (.exit 0)) <|
  .block 1 <| .region [m 18 (.mov (t 0)), m 19 (.mov (t 0)), m 20 (.len (t 19)), m 21 (.bin .sub .num (t 20) (.c (i 1))), m 22 (.slice 1 (t 18) none (some (t 21))), m 0 (.mov (t 22))]) <|
  .seq (.region [m 23 (.mov (t 0)), m 4 (.mov (t 23))]) <|
  .ret
def vf108 : VFun := ⟨24, 1, vb108, [.tmp 4], false⟩
theorem cf108 : cFun Go.Proofs.Tryd.prog rawF false Go.Proofs.Tryd.f108 = some vf108 := by kernel_rfl
theorem T108 {args : List PV} {σ : VHeap} {Post : KP} (h : belH σ.length σ → (∀ c, c ∈ args → bel σ.length c) → vrun Go.Proofs.Tryd.prog σ.length vb108 (argsEnv args) (σ ++ [dd]) (vend vf108 (TrimP σ.length Post))) (hl : args.length ≤ 24 := by exact Nat.le_of_ble_eq_true rfl) : T Go.Proofs.Tryd.prog 108 args σ Post := T.walk Go.Proofs.Tryd.func108 cf108 hl rfl h

/-- vinery/addr.mask -/
@[reducible] def vb121 : VC :=
  .seq (.region [m 2 (.mov (.c (b 0)))]) <|
  .seq (.block 0 <| .seq (.region [m 4 (.mov (t 0)), m 5 (.bin .leq .num (t 4) (.c (i 0))), m 3 (.mov (t 5))]) <|
  .cond (t 3) (.seq (.region [m 2 (.mov (.c (b 0)))]) <|
  .ret) (.seq (.region [m 7 (.mov (t 0)), m 8 (.bin .geq .num (t 7) (.c (i 8))), m 6 (.mov (t 8))]) <|
  .cond (t 6) (.seq (.region [m 2 (.mov (.c (b 255)))]) <|
  .ret) (.skip))) <|
  .seq (.region [m 9 (.mov (t 0)), m 10 (.bin .sub .num (.c (i 8)) (t 9)), m 11 (.bin .shl .num (.c (b 255)) (t 10)), m 2 (.mov (t 11))]) <|
  .ret
def vf121 : VFun := ⟨12, 0, vb121, [.tmp 2], false⟩
theorem cf121 : cFun Go.Proofs.Tryd.prog rawF false Go.Proofs.Tryd.f121 = some vf121 := by kernel_rfl
theorem T121 {args : List PV} {σ : VHeap} {Post : KP} (h : belH σ.length σ → (∀ c, c ∈ args → bel σ.length c) → vrun Go.Proofs.Tryd.prog σ.length vb121 (argsEnv args) (σ ++ []) (vend vf121 (TrimP σ.length Post))) (hl : args.length ≤ 12 := by exact Nat.le_of_ble_eq_true rfl) : T Go.Proofs.Tryd.prog 121 args σ Post := T.walk Go.Proofs.Tryd.func121 cf121 hl rfl h

/-- vinery/vinerylaw08.UrouteCodes -/
@[reducible] def vb3 : VC :=
  .seq (.region [m 3 (.box 0 (t 0)), m 6 (.mov (.c (.bool false)))]) <|
  .seq (.region [m 22 (.call false 11 []), m 7 (.mov (t 22))]) <|
  .seq (.seq (.region [m 23 (.mov (t 1)), m 24 (.len (t 23)), m 25 (.bin .gtr .num (t 24) (.c (i 4096)))]) <|
  .cond (t 25) (.seq (.region [m 26 (.mov (t 7)), m 6 (.mov (t 26))]) <|
  .ret) (.skip)) <|
  .seq (.region [m 27 (.mov (t 1)), m 28 (.call false 12 [(t 27)]), m 8 (.mov (t 28))]) <|
  .seq (.region [m 30 (.load (some 27) (t 3)), m 31 (.call false 13 [(t 30)]), m 29 (.mov (t 31)), m 32 (.extract 0 (t 29)), m 33 (.extract 1 (t 29)), m 9 (.mov (t 32)), m 10 (.mov (t 33))]) <|
  .seq (.region [m 35 (.mov (t 8)), m 36 (.mov (t 2)), m 37 (.call false 14 [(t 35), (t 36)]), m 34 (.mov (t 37)), m 38 (.extract 0 (t 34)), m 39 (.extract 1 (t 34)), m 40 (.extract 2 (t 34)), m 11 (.alloc 1 [(b 0), (b 0), (b 0), (b 0), (b 0), (b 0), (b 0), (b 0), (i 0), (b 0), (b 0), (b 0), (b 0), (b 0), (b 0), (b 0), (b 0), (b 0), (b 0), (b 0), (b 0), (b 0), (b 0), (b 0), (b 0), (i 0), (i 0)]), e (.store 27 (t 11) (t 38)), m 12 (.mov (t 39)), m 13 (.mov (t 40))]) <|
  .seq (.region [m 42 (.load (some 27) (t 3)), m 43 (.call false 15 [(t 42)]), m 41 (.mov (t 43)), m 44 (.extract 0 (t 41)), m 45 (.extract 1 (t 41)), m 14 (.mov (t 44)), m 15 (.mov (t 45))]) <|
  .seq (.region [m 47 (.mov (t 1)), m 48 (.mov (t 2)), m 49 (.call false 16 [(t 47), (t 48)]), m 46 (.mov (t 49)), m 50 (.extract 0 (t 46)), m 51 (.extract 1 (t 46)), m 52 (.extract 2 (t 46)), m 16 (.alloc 2 [(b 0), (b 0), (b 0), (b 0), (b 0), (b 0), (b 0), (b 0), (i 0), (b 0), (b 0), (b 0), (b 0), (b 0), (b 0), (b 0), (b 0), (b 0), (b 0), (b 0), (b 0), (b 0), (b 0), (b 0), (b 0), (i 0), (i 0)]), e (.store 27 (t 16) (t 50)), m 17 (.mov (t 51)), m 18 (.mov (t 52))]) <|
  .seq (.region [m 53 (.mov (t 8)), m 54 (.mov (t 1)), m 55 (.call false 17 [(t 53), (t 54)]), m 19 (.mov (t 55))]) <|
  .seq (.region [m 56 (.mov (t 9)), m 57 (.b2s (t 56)), m 58 (.mov (t 14)), m 59 (.b2s (t 58)), m 60 (.bin .eql .num (t 57) (t 59)), m 20 (.mov (t 60))]) <|
  .seq (.region [m 61 (.mov (t 9)), m 62 (.mov (t 8)), m 63 (.buildSlice 3 1 2 [.nils] [(0, (t 61)), (1, (t 62))]), m 64 (.call false 18 [(t 63)]), m 21 (.mov (t 64))]) <|
  .seq (.dreg [(m 65 (.mov (t 7)), []), (m 66 (.mov (t 65)), [0]), (g 67 66 true (.mov (t 19)), [1]), (m 68 (.pick (t 66) (t 67) (.c (.bool false))), [1, 2]), (m 69 (.mov (t 68)), [3, 1]), (g 70 69 true (.mov (t 20)), [4]), (m 71 (.pick (t 69) (t 70) (.c (.bool false))), [4, 5]), (m 72 (.mov (t 71)), [6, 4]), (g 73 72 true (.mov (t 21)), [7]), (m 74 (.pick (t 72) (t 73) (.c (.bool false))), [7, 8]), (m 75 (.mov (t 74)), [9, 7]), (g 76 75 true (.mov (t 10)), [10]), (g 77 75 true (.mov (t 15)), [10]), (g 78 75 true (.bin .eql .num (t 76) (t 77)), [11, 12, 10]), (m 79 (.pick (t 75) (t 78) (.c (.bool false))), [10, 13]), (m 80 (.mov (t 79)), [14, 10]), (g 81 80 true (.load (some 27) (t 11)), [15]), (g 82 80 true (.load (some 27) (t 16)), [15]), (g 83 80 true (.eqAgg [(.i .u8), (.i .u8), (.i .u8), (.i .u8), (.i .u8), (.i .u8), (.i .u8), (.i .u8), (.i .i64), (.i .u8), (.i .u8), (.i .u8), (.i .u8), (.i .u8), (.i .u8), (.i .u8), (.i .u8), (.i .u8), (.i .u8), (.i .u8), (.i .u8), (.i .u8), (.i .u8), (.i .u8), (.i .u8), (.i .i64), (.i .i64)] false (t 81) (t 82)), [16, 17, 15]), (m 84 (.pick (t 80) (t 83) (.c (.bool false))), [15, 18]), (m 85 (.mov (t 84)), [19, 15]), (g 86 85 true (.mov (t 12)), [20]), (g 87 85 true (.mov (t 17)), [20]), (g 88 85 true (.bin .eql .num (t 86) (t 87)), [21, 22, 20]), (m 89 (.pick (t 85) (t 88) (.c (.bool false))), [20, 23]), (m 90 (.mov (t 89)), [24, 20]), (g 91 90 true (.mov (t 13)), [25]), (g 92 90 true (.mov (t 18)), [25]), (g 93 90 true (.bin .eql .num (t 91) (t 92)), [26, 27, 25]), (m 94 (.pick (t 90) (t 93) (.c (.bool false))), [25, 28]), (m 95 (.mov (t 94)), [29, 25]), (g 96 95 true (.load (some 27) (t 3)), [30]), (g 97 95 true (.call false 19 [(t 96)]), [31, 30, 30]), (g 98 95 true (.load (some 27) (t 3)), [30]), (g 99 95 true (.call false 20 [(t 98)]), [33, 32, 30]), (g 100 95 true (.bin .eql .bool (t 97) (t 99)), [32, 34, 30]), (m 101 (.pick (t 95) (t 100) (.c (.bool false))), [30, 35]), (m 6 (.mov (t 101)), [36, 34, 0, 1, 2, 3, 4, 5, 6, 7, 8, 9, 10, 11, 12, 13, 14, 15, 16, 17, 18, 19, 20, 21, 22, 23, 24, 25, 26, 27, 28, 29, 30, 31, 32, 33, 34, 35, 36])] [(2, 0), (2, 1), (2, 2), (2, 3), (2, 4), (2, 5), (2, 6), (2, 7), (2, 8), (2, 9), (2, 10), (2, 11), (2, 12), (2, 13), (2, 14), (2, 15), (1, 16), (1, 17), (2, 18), (2, 19), (2, 20), (2, 21), (2, 22), (2, 23), (2, 24), (2, 25), (2, 26), (2, 27), (2, 28), (2, 29), (2, 30), (1, 31), (1, 32), (1, 33), (1, 34), (2, 35), (2, 36), (2, 37)] [0, 1, 3, 7, 15, 31, 63, 127, 255, 511, 1023, 2047, 2047, 8191, 16383, 32767, 65535, 65535, 262143, 524287, 1048575, 2097151, 2097151, 8388607, 16777215, 33554431, 67108863, 67108863, 268435455, 536870911, 1073741823, 2147483647, 4294967295, 2147483647, 17179869183, 34359738367, 68719476735, 137438953471]) <|
  .ret
def vf3 : VFun := ⟨102, 4, vb3, [.tmp 6], false⟩
theorem cf3 : cFun Go.Proofs.Tryd.prog rawF false Go.Proofs.Tryd.f3 = some vf3 := by kernel_rfl
theorem T3 {args : List PV} {σ : VHeap} {Post : KP} (h : belH σ.length σ → (∀ c, c ∈ args → bel σ.length c) → vrun Go.Proofs.Tryd.prog σ.length vb3 (argsEnv args) (σ ++ [dd, dd, dd, dd]) (vend vf3 (TrimP σ.length Post))) (hl : args.length ≤ 102 := by exact Nat.le_of_ble_eq_true rfl) : T Go.Proofs.Tryd.prog 3 args σ Post := T.walk Go.Proofs.Tryd.func3 cf3 hl rfl h

/-- vinery/vinerylaw08.UrouteBack -/
@[reducible] def vb5 : VC :=
  .seq (.region [m 3 (.box 0 (t 0)), m 6 (.mov (.c (.bool false)))]) <|
  .seq (.region [m 22 (.call false 11 []), m 7 (.mov (t 22))]) <|
  .seq (.seq (.region [m 23 (.mov (t 1)), m 24 (.len (t 23)), m 25 (.bin .gtr .num (t 24) (.c (i 4096)))]) <|
  .cond (t 25) (.seq (.region [m 26 (.mov (t 7)), m 6 (.mov (t 26))]) <|
  .ret) (.skip)) <|
  .seq (.region [m 28 (.load (some 27) (t 3)), m 29 (.call false 13 [(t 28)]), m 27 (.mov (t 29)), m 30 (.extract 0 (t 27)), m 31 (.extract 1 (t 27)), m 8 (.mov (t 30)), m 9 (.mov (t 31))]) <|
  .seq (.seq (.region [m 32 (.mov (t 9)), m 33 (.bin .eql .num (t 32) (.c (i 0)))]) <|
  .cond (t 33) (.seq (.dreg [(m 35 (.buildSlice 1 1 0 [(b 0)] []), []), (m 36 (.mov (t 8)), []), (m 37 (.append 2 1 1 (t 35) (t 36)), [0, 1]), (m 38 (.mov (t 1)), []), (m 39 (.append 3 1 1 (t 37) (t 38)), [2, 3, 2]), (m 40 (.field 8 (t 3)), []), (m 41 (.field 0 (t 40)), [5]), (m 42 (.field 0 (t 41)), [6]), (m 43 (.load none (t 42)), [7]), (m 44 (.call false 14 [(t 39), (t 43)]), [4, 8, 4]), (m 34 (.mov (t 44)), [9]), (m 45 (.extract 0 (t 34)), [10]), (m 46 (.extract 1 (t 34)), [10]), (m 47 (.extract 2 (t 34)), [10]), (m 10 (.alloc 4 [(b 0), (b 0), (b 0), (b 0), (b 0), (b 0), (b 0), (b 0), (i 0), (b 0), (b 0), (b 0), (b 0), (b 0), (b 0), (b 0), (b 0), (b 0), (b 0), (b 0), (b 0), (b 0), (b 0), (b 0), (b 0), (i 0), (i 0)]), []), (e (.store 27 (t 10) (t 45)), [14, 11, 9, 0, 1, 2, 3, 4, 5, 6, 7, 8, 9, 10, 11, 14]), (m 11 (.mov (t 46)), [12, 15, 0, 1, 2, 3, 4, 5, 6, 7, 8, 9, 10, 11, 12, 14, 15]), (m 12 (.mov (t 47)), [13, 16, 0, 1, 2, 3, 4, 5, 6, 7, 8, 9, 10, 11, 12, 13, 14, 15, 16])] [(2, 1), (2, 3), (2, 5), (2, 6), (2, 7), (2, 8), (0, 0), (0, 2), (0, 4), (2, 9), (2, 10), (2, 11), (2, 12), (2, 13), (0, 14), (0, 15), (2, 16), (2, 17)] [0, 0, 3, 0, 15, 0, 32, 96, 224, 511, 1023, 2047, 2047, 2047, 0, 20479, 57343, 131071]) <|
  .seq (.region [m 48 (.mov (t 12)), m 49 (.bin .neq .num (t 48) (.c (i 0))), m 50 (.mov (t 49)), g 51 50 false (.load (some 27) (t 10)), g 52 50 false (.load (some 27) (t 3)), g 53 50 false (.eqAgg [(.i .u8), (.i .u8), (.i .u8), (.i .u8), (.i .u8), (.i .u8), (.i .u8), (.i .u8), (.i .i64), (.i .u8), (.i .u8), (.i .u8), (.i .u8), (.i .u8), (.i .u8), (.i .u8), (.i .u8), (.i .u8), (.i .u8), (.i .u8), (.i .u8), (.i .u8), (.i .u8), (.i .u8), (.i .u8), (.i .i64), (.i .i64)] true (t 51) (t 52)), m 54 (.pick (t 50) (.c (.bool true)) (t 53)), m 55 (.mov (t 54)), g 56 55 false (.mov (t 11)), g 57 55 false (.mov (t 8)), g 58 55 false (.len (t 57)), g 59 55 false (.bin .neq .num (t 56) (t 58)), m 60 (.pick (t 55) (.c (.bool true)) (t 59))]) <|
  .cond (t 60) (.seq (.region [m 6 (.mov (.c (.bool false)))]) <|
  .ret) (.skip)) (.skip)) <|
  .seq (.region [m 62 (.mov (t 1)), m 63 (.mov (t 2)), m 64 (.call false 14 [(t 62), (t 63)]), m 61 (.mov (t 64)), m 65 (.extract 0 (t 61)), m 66 (.extract 1 (t 61)), m 67 (.extract 2 (t 61)), m 13 (.alloc 5 [(b 0), (b 0), (b 0), (b 0), (b 0), (b 0), (b 0), (b 0), (i 0), (b 0), (b 0), (b 0), (b 0), (b 0), (b 0), (b 0), (b 0), (b 0), (b 0), (b 0), (b 0), (b 0), (b 0), (b 0), (b 0), (i 0), (i 0)]), e (.store 27 (t 13) (t 65)), m 14 (.mov (t 66)), m 15 (.mov (t 67))]) <|
  .seq (.seq (.region [m 68 (.mov (t 15)), m 69 (.bin .eql .num (t 68) (.c (i 0)))]) <|
  .cond (t 69) (.seq (.region [m 71 (.load (some 27) (t 13)), m 72 (.call false 13 [(t 71)]), m 70 (.mov (t 72)), m 73 (.extract 0 (t 70)), m 74 (.extract 1 (t 70)), m 16 (.mov (t 73)), m 17 (.mov (t 74))]) <|
  .seq (.dreg [(m 75 (.mov (t 17)), []), (m 76 (.bin .neq .num (t 75) (.c (i 0))), [0]), (m 77 (.mov (t 76)), [1]), (g 78 77 false (.mov (t 14)), [2]), (g 79 77 false (.mov (t 1)), [2]), (g 80 77 false (.len (t 79)), [4, 2]), (g 81 77 false (.bin .gtr .num (t 78) (t 80)), [3, 5, 2]), (m 82 (.pick (t 77) (.c (.bool true)) (t 81)), [2, 6]), (m 83 (.mov (t 82)), [7, 2]), (g 84 83 false (.mov (t 16)), [8]), (g 85 83 false (.b2s (t 84)), [9, 8]), (g 86 83 false (.mov (t 1)), [8]), (g 87 83 false (.mov (t 14)), [8]), (g 88 83 false (.slice 1 (t 86) none (some (t 87))), [11, 12, 8]), (g 89 83 false (.b2s (t 88)), [13, 8]), (g 90 83 false (.bin .neq .num (t 85) (t 89)), [10, 14, 8]), (m 91 (.pick (t 83) (.c (.bool true)) (t 90)), [8, 15])] [(2, 0), (2, 1), (2, 2), (2, 3), (2, 4), (1, 5), (2, 6), (2, 7), (2, 8), (2, 9), (1, 10), (2, 11), (2, 12), (1, 13), (1, 14), (2, 15), (2, 16)] [0, 1, 3, 7, 7, 23, 63, 127, 255, 511, 1023, 511, 511, 6655, 14847, 32767, 65535]) <|
  .cond (t 91) (.seq (.region [m 6 (.mov (.c (.bool false)))]) <|
  .ret) (.skip)) (.skip)) <|
  .seq (.region [m 93 (.mov (t 1)), m 94 (.mov (t 2)), m 95 (.call false 22 [(t 93), (t 94)]), m 92 (.mov (t 95)), m 96 (.extract 0 (t 92)), m 97 (.extract 1 (t 92)), m 18 (.mov (t 96)), m 19 (.mov (t 97))]) <|
  .seq (.seq (.region [m 98 (.mov (t 19)), m 99 (.bin .neq .num (t 98) (.c (i 0)))]) <|
  .cond (t 99) (.seq (.region [m 100 (.mov (t 7)), m 101 (.mov (t 100)), g 102 101 true (.mov (t 18)), g 103 101 true (.len (t 102)), g 104 101 true (.bin .eql .num (t 103) (.c (i 0))), m 105 (.pick (t 101) (t 104) (.c (.bool false))), m 6 (.mov (t 105))]) <|
  .ret) (.skip)) <|
  .seq (.region [m 107 (.mov (t 18)), m 108 (.call false 21 [(t 107)]), m 106 (.mov (t 108)), m 109 (.extract 0 (t 106)), m 110 (.extract 1 (t 106)), m 20 (.mov (t 109)), m 21 (.mov (t 110))]) <|
  .seq (.region [m 111 (.mov (t 7)), m 112 (.mov (t 111)), g 113 112 true (.mov (t 21)), g 114 112 true (.bin .eql .num (t 113) (.c (i 0))), m 115 (.pick (t 112) (t 114) (.c (.bool false))), m 116 (.mov (t 115)), g 117 116 true (.mov (t 20)), g 118 116 true (.b2s (t 117)), g 119 116 true (.mov (t 1)), g 120 116 true (.b2s (t 119)), g 121 116 true (.bin .eql .num (t 118) (t 120)), m 122 (.pick (t 116) (t 121) (.c (.bool false))), m 6 (.mov (t 122))]) <|
  .ret
def vf5 : VFun := ⟨123, 6, vb5, [.tmp 6], false⟩
theorem cf5 : cFun Go.Proofs.Tryd.prog rawF false Go.Proofs.Tryd.f5 = some vf5 := by kernel_rfl
theorem T5 {args : List PV} {σ : VHeap} {Post : KP} (h : belH σ.length σ → (∀ c, c ∈ args → bel σ.length c) → vrun Go.Proofs.Tryd.prog σ.length vb5 (argsEnv args) (σ ++ [dd, dd, dd, dd, dd, dd]) (vend vf5 (TrimP σ.length Post))) (hl : args.length ≤ 123 := by exact Nat.le_of_ble_eq_true rfl) : T Go.Proofs.Tryd.prog 5 args σ Post := T.walk Go.Proofs.Tryd.func5 cf5 hl rfl h

/-- vinery/vinerylaw08.UrouteSorts -/
@[reducible] def vb6 : VC :=
  .seq (.region [m 3 (.box 0 (t 0)), m 4 (.box 1 (t 1)), m 5 (.box 2 (t 2)), m 6 (.mov (.c (.bool false)))]) <|
  .seq (.region [m 11 (.call false 11 []), m 7 (.mov (t 11))]) <|
  .seq (.region [m 12 (.load (some 27) (t 3)), m 13 (.load (some 27) (t 4)), m 14 (.call false 26 [(t 12), (t 13)]), m 8 (.mov (t 14))]) <|
  .seq (.region [m 15 (.load (some 27) (t 4)), m 16 (.load (some 27) (t 5)), m 17 (.call false 26 [(t 15), (t 16)]), m 9 (.mov (t 17))]) <|
  .seq (.region [m 18 (.load (some 27) (t 3)), m 19 (.load (some 27) (t 5)), m 20 (.call false 26 [(t 18), (t 19)]), m 10 (.mov (t 20))]) <|
  .seq (.seq (.region [m 21 (.mov (t 8)), m 22 (.bin .lss .num (t 21) (.c (i (-1)))), m 23 (.mov (t 22)), g 24 23 false (.mov (t 8)), g 25 23 false (.bin .gtr .num (t 24) (.c (i 1))), m 26 (.pick (t 23) (.c (.bool true)) (t 25)), m 27 (.mov (t 26)), g 28 27 false (.load (some 27) (t 4)), g 29 27 false (.load (some 27) (t 3)), g 30 27 false (.call false 26 [(t 28), (t 29)]), g 31 27 false (.mov (t 8)), g 32 27 false (.un .neg (t 31)), g 33 27 false (.bin .neq .num (t 30) (t 32)), m 34 (.pick (t 27) (.c (.bool true)) (t 33)), m 35 (.mov (t 34)), g 36 35 false (.mov (t 8)), g 37 35 false (.bin .eql .num (t 36) (.c (i 0))), g 38 35 false (.load (some 27) (t 3)), g 39 35 false (.load (some 27) (t 4)), g 40 35 false (.call false 27 [(t 38), (t 39)]), g 41 35 false (.bin .neq .bool (t 37) (t 40)), m 42 (.pick (t 35) (.c (.bool true)) (t 41))]) <|
  .cond (t 42) (.seq (.region [m 6 (.mov (.c (.bool false)))]) <|
  .ret) (.skip)) <|
  .seq (.region [m 43 (.mov (t 7)), m 44 (.mov (t 43)), g 45 44 true (.mov (t 8)), g 46 44 true (.bin .gtr .num (t 45) (.c (i 0))), g 47 44 true (.mov (t 46)), g 48 47 false (.mov (t 9)), g 49 47 false (.bin .gtr .num (t 48) (.c (i 0))), g 50 44 true (.pick (t 47) (.c (.bool true)) (t 49)), g 51 44 true (.mov (t 50)), g 52 51 false (.mov (t 10)), g 53 51 false (.bin .leq .num (t 52) (.c (i 0))), g 54 51 false (.mov (t 53)), g 55 54 true (.mov (t 8)), g 56 54 true (.bin .eql .num (t 55) (.c (i 0))), g 57 54 true (.mov (t 56)), g 58 57 true (.mov (t 9)), g 59 57 true (.bin .eql .num (t 58) (.c (i 0))), g 60 54 true (.pick (t 57) (t 59) (.c (.bool false))), g 61 54 true (.mov (t 60)), g 62 61 false (.mov (t 10)), g 63 61 false (.bin .lss .num (t 62) (.c (i 0))), g 64 54 true (.pick (t 61) (.c (.bool true)) (t 63)), g 65 51 false (.pick (t 54) (t 64) (.c (.bool false))), g 66 44 true (.pick (t 51) (.c (.bool true)) (t 65)), m 67 (.pick (t 44) (t 66) (.c (.bool false))), m 6 (.mov (t 67))]) <|
  .ret
def vf6 : VFun := ⟨68, 3, vb6, [.tmp 6], false⟩
theorem cf6 : cFun Go.Proofs.Tryd.prog rawF false Go.Proofs.Tryd.f6 = some vf6 := by kernel_rfl
theorem T6 {args : List PV} {σ : VHeap} {Post : KP} (h : belH σ.length σ → (∀ c, c ∈ args → bel σ.length c) → vrun Go.Proofs.Tryd.prog σ.length vb6 (argsEnv args) (σ ++ [dd, dd, dd]) (vend vf6 (TrimP σ.length Post))) (hl : args.length ≤ 68 := by exact Nat.le_of_ble_eq_true rfl) : T Go.Proofs.Tryd.prog 6 args σ Post := T.walk Go.Proofs.Tryd.func6 cf6 hl rfl h

/-- vinery/vinerylaw08.UrouteLabels -/
@[reducible] def vb7 : VC :=
  .seq (.region [m 2 (.box 0 (t 0)), m 4 (.mov (.c (.bool false)))]) <|
  .seq (.region [m 11 (.call false 11 []), m 5 (.mov (t 11))]) <|
  .seq (.region [m 12 (.load (some 27) (t 2)), m 6 (.alloc 1 [(b 0), (b 0), (b 0), (b 0), (b 0), (b 0), (b 0), (b 0), (i 0), (b 0), (b 0), (b 0), (b 0), (b 0), (b 0), (b 0), (b 0), (b 0), (b 0), (b 0), (b 0), (b 0), (b 0), (b 0), (b 0), (i 0), (i 0)]), e (.store 27 (t 6) (t 12))]) <|
  .seq (.region [m 13 (.mov (t 1)), m 14 (.field 26 (t 6)), e (.store 1 (t 14) (t 13))]) <|
  .seq (.region [m 16 (.load (some 27) (t 2)), m 17 (.call false 13 [(t 16)]), m 15 (.mov (t 17)), m 18 (.extract 0 (t 15)), m 19 (.extract 1 (t 15)), m 7 (.mov (t 18)), m 8 (.mov (t 19))]) <|
  .seq (.region [m 21 (.load (some 27) (t 6)), m 22 (.call false 13 [(t 21)]), m 20 (.mov (t 22)), m 23 (.extract 0 (t 20)), m 24 (.extract 1 (t 20)), m 9 (.mov (t 23)), m 10 (.mov (t 24))]) <|
  .seq (.seq (.region [m 25 (.mov (t 8)), m 26 (.bin .neq .num (t 25) (.c (i 0))), m 27 (.mov (t 26)), g 28 27 false (.mov (t 10)), g 29 27 false (.bin .neq .num (t 28) (.c (i 0))), m 30 (.pick (t 27) (.c (.bool true)) (t 29))]) <|
  .cond (t 30) (.seq (.region [m 31 (.mov (t 5)), m 32 (.mov (t 31)), g 33 32 true (.load (some 27) (t 2)), g 34 32 true (.load (some 27) (t 6)), g 35 32 true (.call false 27 [(t 33), (t 34)]), m 36 (.pick (t 32) (t 35) (.c (.bool false))), m 37 (.mov (t 36)), g 38 37 true (.load (some 27) (t 2)), g 39 37 true (.load (some 27) (t 6)), g 40 37 true (.call false 26 [(t 38), (t 39)]), g 41 37 true (.bin .eql .num (t 40) (.c (i 0))), m 42 (.pick (t 37) (t 41) (.c (.bool false))), m 4 (.mov (t 42))]) <|
  .ret) (.skip)) <|
  .seq (.dreg [(m 43 (.mov (t 5)), []), (m 44 (.mov (t 43)), [0]), (g 45 44 true (.load (some 27) (t 2)), [1]), (g 46 44 true (.load (some 27) (t 6)), [1]), (g 47 44 true (.call false 27 [(t 45), (t 46)]), [2, 3, 1, 1]), (m 48 (.pick (t 44) (t 47) (.c (.bool false))), [1, 4]), (m 49 (.mov (t 48)), [5, 4]), (g 50 49 true (.load (some 27) (t 2)), [6]), (g 51 49 true (.load (some 27) (t 6)), [6]), (g 52 49 true (.call false 26 [(t 50), (t 51)]), [7, 8, 6, 6]), (g 53 49 true (.bin .eql .num (t 52) (.c (i 0))), [9, 6]), (m 54 (.pick (t 49) (t 53) (.c (.bool false))), [6, 10]), (m 55 (.mov (t 54)), [11, 9]), (g 56 55 true (.mov (t 7)), [12]), (g 57 55 true (.len (t 56)), [13, 12]), (g 58 55 true (.mov (t 9)), [12]), (g 59 55 true (.len (t 58)), [15, 12]), (g 60 55 true (.bin .eql .num (t 57) (t 59)), [14, 16, 12]), (m 61 (.pick (t 55) (t 60) (.c (.bool false))), [12, 17]), (m 62 (.mov (t 61)), [18, 12]), (g 63 62 true (.mov (t 7)), [19]), (g 64 62 true (.len (t 63)), [20, 19]), (g 65 62 true (.bin .geq .num (t 64) (.c (i 12))), [21, 19]), (m 66 (.pick (t 62) (t 65) (.c (.bool false))), [19, 22]), (m 67 (.mov (t 66)), [23, 19]), (g 68 67 true (.mov (t 7)), [24]), (g 69 67 true (.slice 1 (t 68) (some (.c (i 4))) none), [25, 24]), (g 70 67 true (.b2s (t 69)), [26, 24]), (g 71 67 true (.mov (t 9)), [24]), (g 72 67 true (.slice 1 (t 71) (some (.c (i 4))) none), [28, 24]), (g 73 67 true (.b2s (t 72)), [29, 24]), (g 74 67 true (.bin .eql .num (t 70) (t 73)), [27, 30, 24]), (m 75 (.pick (t 67) (t 74) (.c (.bool false))), [24, 31]), (m 76 (.mov (t 75)), [32, 24]), (g 77 76 true (.mov (t 7)), [33]), (g 78 76 true (.index 1 (t 77) (.c (i 0))), [34, 33]), (g 79 76 true (.load none (t 78)), [35, 33]), (g 80 76 true (.mov (t 9)), [33]), (g 81 76 true (.index 1 (t 80) (.c (i 0))), [37, 33]), (g 82 76 true (.load none (t 81)), [38, 33]), (g 83 76 true (.bin .eql .num (t 79) (t 82)), [36, 39, 33]), (m 84 (.pick (t 76) (t 83) (.c (.bool false))), [33, 40]), (m 85 (.mov (t 84)), [41, 33]), (g 86 85 true (.mov (t 7)), [42]), (g 87 85 true (.b2s (t 86)), [43, 42]), (g 88 85 true (.mov (t 9)), [42]), (g 89 85 true (.b2s (t 88)), [45, 42]), (g 90 85 true (.bin .eql .num (t 87) (t 89)), [44, 46, 42]), (g 91 85 true (.load (some 27) (t 2)), [42]), (g 92 85 true (.load (some 27) (t 6)), [42]), (g 93 85 true (.eqAgg [(.i .u8), (.i .u8), (.i .u8), (.i .u8), (.i .u8), (.i .u8), (.i .u8), (.i .u8), (.i .i64), (.i .u8), (.i .u8), (.i .u8), (.i .u8), (.i .u8), (.i .u8), (.i .u8), (.i .u8), (.i .u8), (.i .u8), (.i .u8), (.i .u8), (.i .u8), (.i .u8), (.i .u8), (.i .u8), (.i .i64), (.i .i64)] false (t 91) (t 92)), [48, 49, 42]), (g 94 85 true (.bin .eql .bool (t 90) (t 93)), [47, 50, 42]), (m 95 (.pick (t 85) (t 94) (.c (.bool false))), [42, 51]), (m 4 (.mov (t 95)), [52, 42, 0, 1, 2, 3, 4, 5, 6, 7, 8, 9, 10, 11, 12, 13, 14, 15, 16, 17, 18, 19, 20, 21, 22, 23, 24, 25, 26, 27, 28, 29, 30, 31, 32, 33, 34, 35, 36, 37, 38, 39, 40, 41, 42, 43, 44, 45, 46, 47, 48, 49, 50, 51, 52])] [(2, 0), (2, 1), (1, 2), (1, 3), (1, 4), (2, 5), (2, 6), (1, 7), (1, 8), (1, 9), (2, 10), (2, 11), (2, 12), (2, 13), (1, 14), (2, 15), (1, 16), (2, 17), (2, 18), (2, 19), (2, 20), (1, 21), (2, 22), (2, 23), (2, 24), (2, 25), (1, 26), (1, 27), (2, 28), (1, 29), (1, 30), (2, 31), (2, 32), (2, 33), (2, 34), (1, 35), (1, 36), (2, 37), (1, 38), (1, 39), (2, 40), (2, 41), (2, 42), (2, 43), (1, 44), (2, 45), (1, 46), (2, 47), (1, 48), (1, 49), (2, 50), (2, 51), (2, 52), (2, 53)] [0, 1, 3, 3, 15, 31, 63, 127, 127, 511, 1023, 2047, 4095, 8191, 16383, 8191, 40959, 131071, 262143, 524287, 1048575, 2097151, 4194303, 8388607, 16777215, 33554431, 67108863, 134217727, 33554431, 301989887, 838860799, 2147483647, 4294967295, 8589934591, 17179869183, 34359738367, 68719476735, 17179869183, 154618822655, 429496729599, 1099511627775, 2199023255551, 4398046511103, 8796093022207, 17592186044415, 8796093022207, 43980465111039, 140737488355327, 8796093022207, 8796093022207, 853221023154175, 2251799813685247, 4503599627370495, 9007199254740991]) <|
  .ret
def vf7 : VFun := ⟨96, 2, vb7, [.tmp 4], false⟩
theorem cf7 : cFun Go.Proofs.Tryd.prog rawF false Go.Proofs.Tryd.f7 = some vf7 := by kernel_rfl
theorem T7 {args : List PV} {σ : VHeap} {Post : KP} (h : belH σ.length σ → (∀ c, c ∈ args → bel σ.length c) → vrun Go.Proofs.Tryd.prog σ.length vb7 (argsEnv args) (σ ++ [dd, dd]) (vend vf7 (TrimP σ.length Post))) (hl : args.length ≤ 96 := by exact Nat.le_of_ble_eq_true rfl) : T Go.Proofs.Tryd.prog 7 args σ Post := T.walk Go.Proofs.Tryd.func7 cf7 hl rfl h

/-- vinery/vinerylaw08.small -/
@[reducible] def vb11 : VC :=
  .seq (.region [m 0 (.mov (.c (.bool false)))]) <|
  .seq (.region [m 7 (.build [(b 0), (b 0), (b 0), (b 0), (b 0), (b 0), (b 0), (b 0)] [(0, 1, (.c (b 0))), (1, 1, (.c (b 0))), (2, 1, (.c (b 0))), (3, 1, (.c (b 1))), (4, 1, (.c (b 0))), (5, 1, (.c (b 0))), (6, 1, (.c (b 0))), (7, 1, (.c (b 1)))]), m 8 (.call false 39 [(.c (b 10)), (.c (b 1)), (.c (b 0)), (.c (b 0))]), m 9 (.build [(i 0), (b 0), (b 0), (b 0), (b 0), (b 0), (b 0), (b 0), (b 0), (b 0), (b 0), (b 0), (b 0), (b 0), (b 0), (b 0), (b 0), (i 0)] [(0, 17, (t 8)), (17, 1, (.c (i 16)))]), m 10 (.build [(b 0), (b 0), (b 0), (b 0), (b 0), (b 0), (b 0), (b 0), (i 0), (b 0), (b 0), (b 0), (b 0), (b 0), (b 0), (b 0), (b 0), (b 0), (b 0), (b 0), (b 0), (b 0), (b 0), (b 0), (b 0), (i 0), (i 0)] [(0, 8, (t 7)), (8, 18, (t 9)), (26, 1, (.c (i 16)))]), m 1 (.alloc 0 [(b 0), (b 0), (b 0), (b 0), (b 0), (b 0), (b 0), (b 0), (i 0), (b 0), (b 0), (b 0), (b 0), (b 0), (b 0), (b 0), (b 0), (b 0), (b 0), (b 0), (b 0), (b 0), (b 0), (b 0), (b 0), (i 0), (i 0)]), e (.store 27 (t 1) (t 10))]) <|
  .seq (.region [m 12 (.load (some 27) (t 1)), m 13 (.call false 13 [(t 12)]), m 11 (.mov (t 13)), m 14 (.extract 0 (t 11)), m 15 (.extract 1 (t 11)), m 2 (.mov (t 14)), m 3 (.mov (t 15))]) <|
  .seq (.region [m 17 (.mov (t 2)), m 18 (.buildSlice 1 1 1 [(b 0)] [(0, (.c (b 7)))]), m 19 (.append 2 1 1 (t 17) (t 18)), m 20 (.call false 14 [(t 19), (.c (i 4))]), m 16 (.mov (t 20)), m 21 (.extract 0 (t 16)), m 22 (.extract 1 (t 16)), m 23 (.extract 2 (t 16)), m 4 (.alloc 3 [(b 0), (b 0), (b 0), (b 0), (b 0), (b 0), (b 0), (b 0), (i 0), (b 0), (b 0), (b 0), (b 0), (b 0), (b 0), (b 0), (b 0), (b 0), (b 0), (b 0), (b 0), (b 0), (b 0), (b 0), (b 0), (i 0), (i 0)]), e (.store 27 (t 4) (t 21)), m 5 (.mov (t 22)), m 6 (.mov (t 23))]) <|
  .seq (.region [m 24 (.mov (t 3)), m 25 (.bin .eql .num (t 24) (.c (i 0))), m 26 (.mov (t 25)), g 27 26 true (.mov (t 2)), g 28 26 true (.b2s (t 27)), g 29 26 true (.bin .eql .num (t 28) (.c (.str [104, 0, 1, 1, 0, 0, 0, 1, 0, 0, 0, 1, 10, 1]))), m 30 (.pick (t 26) (t 29) (.c (.bool false))), m 31 (.mov (t 30)), g 32 31 true (.mov (t 6)), g 33 31 true (.bin .eql .num (t 32) (.c (i 0))), m 34 (.pick (t 31) (t 33) (.c (.bool false))), m 35 (.mov (t 34)), g 36 35 true (.mov (t 5)), g 37 35 true (.bin .eql .num (t 36) (.c (i 14))), m 38 (.pick (t 35) (t 37) (.c (.bool false))), m 39 (.mov (t 38)), g 40 39 true (.load (some 27) (t 4)), g 41 39 true (.load (some 27) (t 1)), g 42 39 true (.eqAgg [(.i .u8), (.i .u8), (.i .u8), (.i .u8), (.i .u8), (.i .u8), (.i .u8), (.i .u8), (.i .i64), (.i .u8), (.i .u8), (.i .u8), (.i .u8), (.i .u8), (.i .u8), (.i .u8), (.i .u8), (.i .u8), (.i .u8), (.i .u8), (.i .u8), (.i .u8), (.i .u8), (.i .u8), (.i .u8), (.i .i64), (.i .i64)] false (t 40) (t 41)), m 43 (.pick (t 39) (t 42) (.c (.bool false))), m 44 (.mov (t 43)), g 45 44 true (.load (some 27) (t 1)), g 46 44 true (.call false 40 [(t 45)]), g 47 44 true (.bin .eql .num (t 46) (.c (.str [48, 58, 49, 58, 49, 32, 49, 48, 46, 49, 46, 48, 46, 48, 47, 49, 54, 32, 49, 54]))), m 48 (.pick (t 44) (t 47) (.c (.bool false))), m 0 (.mov (t 48))]) <|
  .ret
def vf11 : VFun := ⟨49, 4, vb11, [.tmp 0], false⟩
theorem cf11 : cFun Go.Proofs.Tryd.prog rawF false Go.Proofs.Tryd.f11 = some vf11 := by kernel_rfl
theorem T11 {args : List PV} {σ : VHeap} {Post : KP} (h : belH σ.length σ → (∀ c, c ∈ args → bel σ.length c) → vrun Go.Proofs.Tryd.prog σ.length vb11 (argsEnv args) (σ ++ [dd, dd, dd, dd]) (vend vf11 (TrimP σ.length Post))) (hl : args.length ≤ 49 := by exact Nat.le_of_ble_eq_true rfl) : T Go.Proofs.Tryd.prog 11 args σ Post := T.walk Go.Proofs.Tryd.func11 cf11 hl rfl h

/-- vinery/vinerylaw01.Lent -/
@[reducible] def vb12 : VC :=
  .seq (.region [m 2 (.newRow 0 1)]) <|
  .seq (.region [m 4 (.mov (t 0)), m 5 (.len (t 4)), m 6 (.mov (t 0)), m 7 (.len (t 6)), m 8 (.bin .add .num (t 7) (.c (i 1))), m 9 (.makeSlice 1 1 1 [(b 0)] (t 5) (t 8)), m 3 (.mov (t 9))]) <|
  .seq (.region [m 10 (.mov (t 3)), m 11 (.mov (t 0)), m 12 (.copyTo 1 (t 10) (t 11))]) <|
  .seq (.region [m 13 (.mov (t 3)), m 14 (.mov (t 0)), m 15 (.len (t 14)), m 16 (.bin .add .num (t 15) (.c (i 1))), m 17 (.slice 1 (t 13) none (some (t 16))), m 18 (.mov (t 0)), m 19 (.len (t 18)), m 20 (.index 1 (t 17) (t 19)), e (.store 1 (t 20) (.c (b 77)))]) <|
  .seq (.region [m 21 (.mov (t 3)), m 2 (.mov (t 21))]) <|
  .ret
def vf12 : VFun := ⟨22, 2, vb12, [.tmp 2], false⟩
theorem cf12 : cFun Go.Proofs.Tryd.prog rawF false Go.Proofs.Tryd.f12 = some vf12 := by kernel_rfl
theorem T12 {args : List PV} {σ : VHeap} {Post : KP} (h : belH σ.length σ → (∀ c, c ∈ args → bel σ.length c) → vrun Go.Proofs.Tryd.prog σ.length vb12 (argsEnv args) (σ ++ [dd, dd]) (vend vf12 (TrimP σ.length Post))) (hl : args.length ≤ 22 := by exact Nat.le_of_ble_eq_true rfl) : T Go.Proofs.Tryd.prog 12 args σ Post := T.walk Go.Proofs.Tryd.func12 cf12 hl rfl h

/-- vinery/vinerylaw01.Kept -/
@[reducible] def vb17 : VC :=
  .seq (.region [m 4 (.mov (.c (.bool false)))]) <|
  .seq (.region [m 5 (.mov (t 0)), m 6 (.b2s (t 5)), m 7 (.mov (t 1)), m 8 (.b2s (t 7)), m 9 (.bin .eql .num (t 6) (t 8)), m 10 (.mov (t 9)), g 11 10 true (.mov (t 0)), g 12 10 true (.mov (t 1)), g 13 10 true (.len (t 12)), g 14 10 true (.bin .add .num (t 13) (.c (i 1))), g 15 10 true (.slice 1 (t 11) none (some (t 14))), g 16 10 true (.mov (t 1)), g 17 10 true (.len (t 16)), g 18 10 true (.index 1 (t 15) (t 17)), g 19 10 true (.load none (t 18)), g 20 10 true (.bin .eql .num (t 19) (.c (b 77))), m 21 (.pick (t 10) (t 20) (.c (.bool false))), m 4 (.mov (t 21))]) <|
  .ret
def vf17 : VFun := ⟨22, 0, vb17, [.tmp 4], false⟩
theorem cf17 : cFun Go.Proofs.Tryd.prog rawF false Go.Proofs.Tryd.f17 = some vf17 := by kernel_rfl
theorem T17 {args : List PV} {σ : VHeap} {Post : KP} (h : belH σ.length σ → (∀ c, c ∈ args → bel σ.length c) → vrun Go.Proofs.Tryd.prog σ.length vb17 (argsEnv args) (σ ++ []) (vend vf17 (TrimP σ.length Post))) (hl : args.length ≤ 22 := by exact Nat.le_of_ble_eq_true rfl) : T Go.Proofs.Tryd.prog 17 args σ Post := T.walk Go.Proofs.Tryd.func17 cf17 hl rfl h

/-- vinery/vinerylaw01.Owned -/
@[reducible] def vb18 : VC :=
  .seq (.region [m 2 (.mov (.c (.bool false)))]) <|
  .seq (.seq (.region [m 3 (.mov (.c (i 0)))]) <|
  .block 0 <| .loop <| .seq (.seq (.region [m 9 (.mov (t 3)), m 10 (.mov (t 0)), m 11 (.len (t 10)), m 12 (.bin .lss .num (t 9) (t 11))]) <|
  .cond (t 12) (.skip) (.exit 0)) <|
  .seq (.block 1 <| .seq (.dreg [(m 15 (.mov (t 0)), []), (m 16 (.mov (t 3)), []), (m 17 (.index 1 (t 15) (t 16)), [0, 1]), (m 18 (.load none (t 17)), [2]), (m 19 (.mov (t 0)), []), (m 20 (.mov (t 3)), []), (m 21 (.index 1 (t 19) (t 20)), [4, 5]), (m 22 (.load none (t 21)), [6]), (m 23 (.bad), [7]), (m 24 (.slice 1 (t 18) none (some (t 23))), [3, 8]), (m 4 (.mov (t 24)), [9, 0, 1, 2, 3, 4, 5, 6, 7, 8, 9])] [(2, 0), (2, 1), (2, 2), (2, 3), (2, 4), (2, 5), (1, 6), (1, 7), (0, 8), (1, 9), (2, 10)] [0, 0, 3, 7, 0, 0, 48, 112, 240, 511, 1023]) <|
  .seq (.region [m 5 (.mov (.c (i 0)))]) <|
  .block 2 <| .loop <| .seq (.seq (.region [m 25 (.mov (t 5)), m 26 (.mov (t 4)), m 27 (.len (t 26)), m 28 (.bin .lss .num (t 25) (t 27))]) <|
  .cond (t 28) (.skip) (.exit 2)) <|
  .seq (.block 3 <| .region [m 31 (.mov (t 4)), m 32 (.mov (t 5)), m 33 (.mov (t 3)), m 34 (.bin .add .num (t 33) (.c (i 1))), m 35 (.convInt .u8 (t 34)), m 36 (.index 1 (t 31) (t 32)), e (.store 1 (t 36) (t 35))]) <|
  .region [m 29 (.mov (t 5)), m 30 (.bin .add .num (t 29) (.c (i 1))), m 5 (.mov (t 30))]) <|
  .region [m 13 (.mov (t 3)), m 14 (.bin .add .num (t 13) (.c (i 1))), m 3 (.mov (t 14))]) <|
  .seq (.seq (.region [m 6 (.mov (.c (i 0)))]) <|
  .block 4 <| .loop <| .seq (.seq (.region [m 37 (.mov (t 6)), m 38 (.mov (t 0)), m 39 (.len (t 38)), m 40 (.bin .lss .num (t 37) (t 39))]) <|
  .cond (t 40) (.skip) (.exit 4)) <|
  .seq (.block 5 <| .seq (.dreg [(m 43 (.mov (t 0)), []), (m 44 (.mov (t 6)), []), (m 45 (.index 1 (t 43) (t 44)), [0, 1]), (m 46 (.load none (t 45)), [2]), (m 47 (.mov (t 0)), []), (m 48 (.mov (t 6)), []), (m 49 (.index 1 (t 47) (t 48)), [4, 5]), (m 50 (.load none (t 49)), [6]), (m 51 (.bad), [7]), (m 52 (.slice 1 (t 46) none (some (t 51))), [3, 8]), (m 7 (.mov (t 52)), [9, 0, 1, 2, 3, 4, 5, 6, 7, 8, 9])] [(2, 0), (2, 1), (2, 2), (2, 3), (2, 4), (2, 5), (1, 6), (1, 7), (0, 8), (1, 9), (2, 10)] [0, 0, 3, 7, 0, 0, 48, 112, 240, 511, 1023]) <|
  .seq (.region [m 8 (.mov (.c (i 0)))]) <|
  .block 6 <| .loop <| .seq (.seq (.region [m 53 (.mov (t 8)), m 54 (.mov (t 7)), m 55 (.len (t 54)), m 56 (.bin .lss .num (t 53) (t 55))]) <|
  .cond (t 56) (.skip) (.exit 6)) <|
  .seq (.block 7 <| .seq (.region [m 59 (.mov (t 7)), m 60 (.mov (t 8)), m 61 (.index 1 (t 59) (t 60)), m 62 (.load none (t 61)), m 63 (.mov (t 6)), m 64 (.bin .add .num (t 63) (.c (i 1))), m 65 (.convInt .u8 (t 64)), m 66 (.bin .neq .num (t 62) (t 65))]) <|
  .cond (t 66) (.seq (.region [m 2 (.mov (.c (.bool false)))]) <|
  .ret) (.skip)) <|
  .region [m 57 (.mov (t 8)), m 58 (.bin .add .num (t 57) (.c (i 1))), m 8 (.mov (t 58))]) <|
  .region [m 41 (.mov (t 6)), m 42 (.bin .add .num (t 41) (.c (i 1))), m 6 (.mov (t 42))]) <|
  .seq (.region [m 2 (.mov (.c (.bool true)))]) <|
  .ret
def vf18 : VFun := ⟨67, 0, vb18, [.tmp 2], false⟩
theorem cf18 : cFun Go.Proofs.Tryd.prog rawF false Go.Proofs.Tryd.f18 = some vf18 := by kernel_rfl
theorem T18 {args : List PV} {σ : VHeap} {Post : KP} (h : belH σ.length σ → (∀ c, c ∈ args → bel σ.length c) → vrun Go.Proofs.Tryd.prog σ.length vb18 (argsEnv args) (σ ++ []) (vend vf18 (TrimP σ.length Post))) (hl : args.length ≤ 67 := by exact Nat.le_of_ble_eq_true rfl) : T Go.Proofs.Tryd.prog 18 args σ Post := T.walk Go.Proofs.Tryd.func18 cf18 hl rfl h

/-- vinery/vinerylaw07.V4 -/
@[reducible] def vb39 : VC :=
  .seq (.region [m 8 (.alloc 0 [(i 0), (b 0), (b 0), (b 0), (b 0), (b 0), (b 0), (b 0), (b 0), (b 0), (b 0), (b 0), (b 0), (b 0), (b 0), (b 0), (b 0)])]) <|
  .seq (.region [m 9 (.mov (t 0)), m 10 (.mov (t 1)), m 11 (.mov (t 2)), m 12 (.mov (t 3)), m 13 (.build [(b 0), (b 0), (b 0), (b 0), (b 0), (b 0), (b 0), (b 0), (b 0), (b 0), (b 0), (b 0), (b 0), (b 0), (b 0), (b 0)] [(0, 1, (t 9)), (1, 1, (t 10)), (2, 1, (t 11)), (3, 1, (t 12))]), m 14 (.build [(i 0), (b 0), (b 0), (b 0), (b 0), (b 0), (b 0), (b 0), (b 0), (b 0), (b 0), (b 0), (b 0), (b 0), (b 0), (b 0), (b 0)] [(0, 1, (.c (i 4))), (1, 16, (t 13))]), e (.store 17 (t 8) (t 14))]) <|
  .ret
def vf39 : VFun := ⟨15, 1, vb39, [.cell 8 (some 17)], false⟩
theorem cf39 : cFun Go.Proofs.Tryd.prog rawF false Go.Proofs.Tryd.f39 = some vf39 := by kernel_rfl
theorem T39 {args : List PV} {σ : VHeap} {Post : KP} (h : belH σ.length σ → (∀ c, c ∈ args → bel σ.length c) → vrun Go.Proofs.Tryd.prog σ.length vb39 (argsEnv args) (σ ++ [dd]) (vend vf39 (TrimP σ.length Post))) (hl : args.length ≤ 15 := by exact Nat.le_of_ble_eq_true rfl) : T Go.Proofs.Tryd.prog 39 args σ Post := T.walk Go.Proofs.Tryd.func39 cf39 hl rfl h

/-- vinery/vinerylaw08.UrouteRows -/
@[reducible] def vb4 : VC :=
  .seq (.region [m 6 (.mov (.c (.bool false)))]) <|
  .seq (.region [m 18 (.call false 11 []), m 7 (.mov (t 18))]) <|
  .seq (.seq (.region [m 19 (.mov (t 0)), m 20 (.len (t 19)), m 21 (.bin .gtr .num (t 20) (.c (i 40))), m 22 (.mov (t 21)), g 23 22 false (.mov (t 1)), g 24 22 false (.len (t 23)), g 25 22 false (.bin .gtr .num (t 24) (.c (i 4096))), m 26 (.pick (t 22) (.c (.bool true)) (t 25))]) <|
  .cond (t 26) (.seq (.region [m 27 (.mov (t 7)), m 6 (.mov (t 27))]) <|
  .ret) (.skip)) <|
  .seq (.region [m 28 (.mov (t 1)), m 29 (.call false 12 [(t 28)]), m 8 (.mov (t 29))]) <|
  .seq (.region [m 31 (.mov (t 0)), m 32 (.call false 21 [(t 31)]), m 30 (.mov (t 32)), m 33 (.extract 0 (t 30)), m 34 (.extract 1 (t 30)), m 9 (.mov (t 33)), m 10 (.mov (t 34))]) <|
  .seq (.region [m 36 (.mov (t 8)), m 37 (.mov (t 2)), m 38 (.call false 22 [(t 36), (t 37)]), m 35 (.mov (t 38)), m 39 (.extract 0 (t 35)), m 40 (.extract 1 (t 35)), m 11 (.mov (t 39)), m 12 (.mov (t 40))]) <|
  .seq (.region [m 42 (.mov (t 0)), m 43 (.call false 23 [(t 42)]), m 41 (.mov (t 43)), m 44 (.extract 0 (t 41)), m 45 (.extract 1 (t 41)), m 13 (.mov (t 44)), m 14 (.mov (t 45))]) <|
  .seq (.region [m 47 (.mov (t 1)), m 48 (.mov (t 2)), m 49 (.call false 24 [(t 47), (t 48)]), m 46 (.mov (t 49)), m 50 (.extract 0 (t 46)), m 51 (.extract 1 (t 46)), m 15 (.mov (t 50)), m 16 (.mov (t 51))]) <|
  .seq (.region [m 52 (.mov (t 8)), m 53 (.mov (t 1)), m 54 (.call false 17 [(t 52), (t 53)]), m 17 (.mov (t 54))]) <|
  .seq (.region [m 55 (.mov (t 7)), m 56 (.mov (t 55)), g 57 56 true (.mov (t 17)), m 58 (.pick (t 56) (t 57) (.c (.bool false))), m 59 (.mov (t 58)), g 60 59 true (.mov (t 9)), g 61 59 true (.b2s (t 60)), g 62 59 true (.mov (t 13)), g 63 59 true (.b2s (t 62)), g 64 59 true (.bin .eql .num (t 61) (t 63)), m 65 (.pick (t 59) (t 64) (.c (.bool false))), m 66 (.mov (t 65)), g 67 66 true (.mov (t 10)), g 68 66 true (.mov (t 14)), g 69 66 true (.bin .eql .num (t 67) (t 68)), m 70 (.pick (t 66) (t 69) (.c (.bool false))), m 71 (.mov (t 70)), g 72 71 true (.mov (t 11)), g 73 71 true (.mov (t 15)), g 74 71 true (.call false 25 [(t 72), (t 73)]), m 75 (.pick (t 71) (t 74) (.c (.bool false))), m 76 (.mov (t 75)), g 77 76 true (.mov (t 12)), g 78 76 true (.mov (t 16)), g 79 76 true (.bin .eql .num (t 77) (t 78)), m 80 (.pick (t 76) (t 79) (.c (.bool false))), m 6 (.mov (t 80))]) <|
  .ret
def vf4 : VFun := ⟨81, 0, vb4, [.tmp 6], false⟩
theorem cf4 : cFun Go.Proofs.Tryd.prog rawF false Go.Proofs.Tryd.f4 = some vf4 := by kernel_rfl
theorem T4 {args : List PV} {σ : VHeap} {Post : KP} (h : belH σ.length σ → (∀ c, c ∈ args → bel σ.length c) → vrun Go.Proofs.Tryd.prog σ.length vb4 (argsEnv args) (σ ++ []) (vend vf4 (TrimP σ.length Post))) (hl : args.length ≤ 81 := by exact Nat.le_of_ble_eq_true rfl) : T Go.Proofs.Tryd.prog 4 args σ Post := T.walk Go.Proofs.Tryd.func4 cf4 hl rfl h

end Go.Proofs.YtdkjcadffhnjgaaDoor
