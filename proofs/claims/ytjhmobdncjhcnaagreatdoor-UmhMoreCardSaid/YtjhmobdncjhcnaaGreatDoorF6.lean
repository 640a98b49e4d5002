/- Functions of the program, in the small language. -/
import Derived.Test.YtjhmobdncjhcnaaGreatDoorF1
namespace Go.Proofs.YtjhmobdncjhcnaaGreatDoor
open Go Go.V D
variable {args : List PV} {σ : VHeap} {Post : KP}
@[reducible] def vb20 : VC :=
  .seq (.region [m 2 (.box 0 (t 0)), m 4 (.alloc 1 [o, o, o, o, o, o, o, o]), m 5 (.mov (.c q))]) <|
  .seq (.seq (.region [m 6 (.load (some 17) (t 2)), m 7 (.call false 54 [(t 6)]), m 8 (.un .not (t 7)), m 9 (.mov (t 8)), g 10 9 false (.field 0 (t 2)), g 11 9 false (.load none (t 10)), g 12 9 false (.bin .neq .num (t 11) (.c (i 4))), m 13 (.pick (t 9) (.c (.bool true)) (t 12))]) <|
  .cond (t 13) (.seq (.region [m 14 (.build [o, o, o, o, o, o, o, o] []), e (.store 8 (t 4) (t 14)), m 5 (.mov (.c (i 1)))]) <|
  .ret) (.skip)) <|
  .seq (.region [m 15 (.load (some 17) (t 2)), m 16 (.call false 57 [(t 15)]), m 17 (.call false 56 [(t 16)]), m 18 (.call false 58 [(t 17), (.c (i 4))]), m 19 (.mov (t 1)), m 20 (.call false 55 [(.c (i 1)), (t 18), (t 19)]), m 21 (.extract 0 (t 20)), m 22 (.extract 1 (t 20)), e (.store 8 (t 4) (t 21)), m 5 (.mov (t 22))]) <|
  .ret
def vf20 : VFun := ⟨23, 2, vb20, [.cell 4 (some 8), .tmp 5], false⟩
theorem cf20 : cFun Tryz.prog rawF false Tryz.f20 = some vf20 := by kernel_rfl
theorem T20 (h : HT σ args Post vb20 vf20 [dd, dd]) (hl : args.length ≤ 23 := by exact Nat.le_of_ble_eq_true rfl) : T Tryz.prog 20 args σ Post := T.walk Tryz.func20 cf20 hl rfl h
@[reducible] def vb21 : VC :=
  .seq (.region [m 1 (.box 0 (t 0)), m 2 (.mov (.c (.bool false)))]) <|
  .seq (.region [m 3 (.field 0 (t 1)), m 4 (.load none (t 3)), m 5 (.lenStr (t 4)), m 6 (.bin .lss .num (t 5) (.c (i 1024))), m 7 (.mov (t 6)), g 8 7 true (.field 10 (t 1)), g 9 7 true (.load none (t 8)), g 10 7 true (.len (t 9)), g 11 7 true (.bin .lss .num (t 10) (.c (i 50))), m 12 (.pick (t 7) (t 11) (.c (.bool false))), m 13 (.mov (t 12)), g 14 13 true (.field 11 (t 1)), g 15 13 true (.load none (t 14)), g 16 13 true (.len (t 15)), g 17 13 true (.bin .lss .num (t 16) (.c (i 50))), m 18 (.pick (t 13) (t 17) (.c (.bool false))), m 19 (.mov (t 18)), g 20 19 true (.field 29 (t 1)), g 21 19 true (.load none (t 20)), g 22 19 true (.len (t 21)), g 23 19 true (.bin .lss .num (t 22) (.c (i 50))), m 24 (.pick (t 19) (t 23) (.c (.bool false))), m 2 (.mov (t 24))]) <|
  .ret
def vf21 : VFun := ⟨25, 1, vb21, [.tmp 2], false⟩
theorem cf21 : cFun Tryz.prog rawF false Tryz.f21 = some vf21 := by kernel_rfl
theorem T21 (h : HT σ args Post vb21 vf21 [dd]) (hl : args.length ≤ 25 := by exact Nat.le_of_ble_eq_true rfl) : T Tryz.prog 21 args σ Post := T.walk Tryz.func21 cf21 hl rfl h
@[reducible] def vb118 : VC :=
  .seq (.region [m 4 (.mov (.c (.bool false)))]) <|
  .seq (.region [m 5 (.mov (t 0)), m 6 (.mov (t 1)), m 7 (.call false 163 [(t 5), (t 6)]), m 8 (.bin .geq .num (t 7) (.c q)), m 4 (.mov (t 8))]) <|
  .ret
def vf118 : VFun := ⟨9, 0, vb118, [.tmp 4], false⟩
theorem cf118 : cFun Tryz.prog rawF false Tryz.f118 = some vf118 := by kernel_rfl
theorem T118 (h : HT σ args Post vb118 vf118 []) (hl : args.length ≤ 9 := by exact Nat.le_of_ble_eq_true rfl) : T Tryz.prog 118 args σ Post := T.walk Tryz.func118 cf118 hl rfl h
@[reducible] def vb163 : VC :=
  .seq (.region [m 4 (.mov (.c q))]) <|
  .seq (.seq (.region [m 6 (.mov (t 0)), m 7 (.len (t 6)), m 8 (.mov (.c q))]) <|
  .block 0 <| .loop <| .seq (.region [m 9 (.bin .lss .num (t 8) (t 7))]) <|
  .seq (.cond (t 9) (.skip) (.exit 0)) <|
  .seq (.block 1 <| .seq (.region [m 10 (.mov (t 8)), m 5 (.mov (t 10))]) <|
  .seq (.region [m 11 (.mov (t 1)), m 12 (.mov (t 0)), m 13 (.mov (t 5)), m 14 (.index 8 (t 12) (t 13)), m 15 (.load (some 8) (t 14)), m 16 (.callV (t 11) [(t 15)])]) <|
  .cond (t 16) (.seq (.region [m 17 (.mov (t 5)), m 4 (.mov (t 17))]) <|
  .ret) (.skip)) <|
  .region [m 18 (.bin .add .num (t 8) (.c (i 1))), m 8 (.mov (t 18))]) <|
  .seq (.region [m 4 (.mov (.c (i (-1))))]) <|
  .ret
def vf163 : VFun := ⟨19, 0, vb163, [.tmp 4], false⟩
theorem cf163 : cFun Tryz.prog rawF false Tryz.f163 = some vf163 := by kernel_rfl
theorem T163 (h : HT σ args Post vb163 vf163 []) (hl : args.length ≤ 19 := by exact Nat.le_of_ble_eq_true rfl) : T Tryz.prog 163 args σ Post := T.walk Tryz.func163 cf163 hl rfl h
@[reducible] def vb100 : VC :=
  .seq (.region [m 1 (.box 0 (t 0)), m 2 (.mov (.c q))]) <|
  .seq (.block 0 <| .seq (.region [m 4 (.indexArr 8 1 (t 1) (.c (i 1))), m 5 (.load none (t 4)), m 6 (.bin .eql .num (t 5) (.c (b 2))), m 7 (.mov (t 6)), g 8 7 true (.indexArr 8 1 (t 1) (.c q)), g 9 7 true (.load none (t 8)), g 10 7 true (.bin .leq .num (t 9) (.c (b 2))), m 11 (.pick (t 7) (t 10) (.c (.bool false))), m 3 (.mov (t 11))]) <|
  .cond (t 3) (.seq (.region [m 2 (.mov (.c (i 1)))]) <|
  .ret) (.seq (.region [m 13 (.indexArr 8 1 (t 1) (.c (i 1))), m 14 (.load none (t 13)), m 15 (.bin .eql .num (t 14) (.c (b 11))), m 16 (.mov (t 15)), g 17 16 true (.indexArr 8 1 (t 1) (.c q)), g 18 16 true (.load none (t 17)), g 19 16 true (.bin .eql .num (t 18) (.c (b 1))), m 20 (.pick (t 16) (t 19) (.c (.bool false))), m 12 (.mov (t 20))]) <|
  .cond (t 12) (.seq (.region [m 2 (.mov (.c (i 2)))]) <|
  .ret) (.seq (.region [m 22 (.indexArr 8 1 (t 1) (.c (i 1))), m 23 (.load none (t 22)), m 24 (.bin .eql .num (t 23) (.c (b 9))), m 25 (.mov (t 24)), g 26 25 true (.indexArr 8 1 (t 1) (.c q)), g 27 25 true (.load none (t 26)), g 28 25 true (.bin .eql .num (t 27) (.c (b 2))), m 29 (.pick (t 25) (t 28) (.c (.bool false))), m 30 (.mov (t 29)), g 31 30 true (.indexArr 8 1 (t 1) (.c (i 6))), g 32 30 true (.load none (t 31)), g 33 30 true (.indexArr 8 1 (t 1) (.c (i 7))), g 34 30 true (.load none (t 33)), g 35 30 true (.bin .or .num (t 32) (t 34)), g 36 30 true (.bin .eql .num (t 35) (.c o)), m 37 (.pick (t 30) (t 36) (.c (.bool false))), m 21 (.mov (t 37))]) <|
  .cond (t 21) (.seq (.region [m 2 (.mov (.c (i 3)))]) <|
  .ret) (.skip)))) <|
  .seq (.region [m 2 (.mov (.c q))]) <|
  .ret
def vf100 : VFun := ⟨38, 1, vb100, [.tmp 2], false⟩
theorem cf100 : cFun Tryz.prog rawF false Tryz.f100 = some vf100 := by kernel_rfl
theorem T100 (h : HT σ args Post vb100 vf100 [dd]) (hl : args.length ≤ 38 := by exact Nat.le_of_ble_eq_true rfl) : T Tryz.prog 100 args σ Post := T.walk Tryz.func100 cf100 hl rfl h
@[reducible] def vb55 : VC :=
  .seq (.region [m 6 (.alloc 0 [o, o, o, o, o, o, o, o]), m 7 (.mov (.c q))]) <|
  .seq (.region [m 11 (.mov (t 0)), m 12 (.mov (t 1)), m 13 (.mov (t 2)), m 14 (.call false 109 [(t 11), (t 12), (t 13)]), m 10 (.mov (t 14)), m 15 (.extract 0 (t 10)), m 16 (.extract 1 (t 10)), m 8 (.alloc 1 [o, o, o, o, o, o, o, o]), e (.store 8 (t 8) (t 15)), m 9 (.mov (t 16))]) <|
  .seq (.seq (.region [m 17 (.mov (t 9)), m 18 (.bin .neq .num (t 17) (.c q))]) <|
  .cond (t 18) (.seq (.region [m 19 (.build [o, o, o, o, o, o, o, o] []), m 20 (.mov (t 9)), e (.store 8 (t 6) (t 19)), m 7 (.mov (t 20))]) <|
  .ret) (.skip)) <|
  .seq (.region [m 21 (.mov (t 0)), m 22 (.convInt .u8 (t 21)), m 23 (.sliceArr 8 1 (t 8) (some (.c (i 2))) none), m 24 (.call false 110 [(t 22), (.c (b 2)), (t 23)]), e (.store 8 (t 6) (t 24)), m 7 (.mov (.c q))]) <|
  .ret
def vf55 : VFun := ⟨25, 2, vb55, [.cell 6 (some 8), .tmp 7], false⟩
theorem cf55 : cFun Tryz.prog rawF false Tryz.f55 = some vf55 := by kernel_rfl
theorem T55 (h : HT σ args Post vb55 vf55 [dd, dd]) (hl : args.length ≤ 25 := by exact Nat.le_of_ble_eq_true rfl) : T Tryz.prog 55 args σ Post := T.walk Tryz.func55 cf55 hl rfl h
@[reducible] def vb109 : VC :=
  .seq (.region [m 6 (.alloc 0 [o, o, o, o, o, o, o, o]), m 7 (.mov (.c q))]) <|
  .seq (.region [m 15 (.mov (t 0)), m 16 (.call false 115 [(t 15)]), m 14 (.mov (t 16)), m 17 (.extract 0 (t 14)), m 18 (.extract 1 (t 14)), m 8 (.mov (t 17)), m 9 (.mov (t 18))]) <|
  .seq (.seq (.region [m 19 (.mov (t 9)), m 20 (.un .not (t 19))]) <|
  .cond (t 20) (.seq (.region [m 21 (.build [o, o, o, o, o, o, o, o] []), e (.store 8 (t 6) (t 21)), m 7 (.mov (.c (i 1)))]) <|
  .ret) (.skip)) <|
  .seq (.region [m 23 (.mov (t 0)), m 24 (.call false 126 [(.c .nils), (t 23), (.c (i 2))]), m 22 (.mov (t 24)), m 25 (.extract 0 (t 22)), m 26 (.extract 1 (t 22)), m 10 (.mov (t 25)), m 11 (.mov (t 26))]) <|
  .seq (.region [m 28 (.mov (t 10)), m 29 (.mov (t 1)), m 30 (.mov (t 8)), m 31 (.call false 126 [(t 28), (t 29), (t 30)]), m 27 (.mov (t 31)), m 32 (.extract 0 (t 27)), m 33 (.extract 1 (t 27)), m 10 (.mov (t 32)), m 12 (.mov (t 33))]) <|
  .seq (.seq (.region [m 34 (.mov (t 12)), m 35 (.bin .eql .num (t 34) (.c q))]) <|
  .cond (t 35) (.region [m 37 (.mov (t 10)), m 38 (.mov (t 2)), m 39 (.mov (t 8)), m 40 (.bin .sub .num (.c (i 6)) (t 39)), m 41 (.call false 126 [(t 37), (t 38), (t 40)]), m 36 (.mov (t 41)), m 42 (.extract 0 (t 36)), m 43 (.extract 1 (t 36)), m 10 (.mov (t 42)), m 12 (.mov (t 43))]) (.skip)) <|
  .seq (.seq (.region [m 44 (.mov (t 12)), m 45 (.bin .neq .num (t 44) (.c q))]) <|
  .cond (t 45) (.seq (.region [m 46 (.build [o, o, o, o, o, o, o, o] []), m 47 (.mov (t 12)), e (.store 8 (t 6) (t 46)), m 7 (.mov (t 47))]) <|
  .ret) (.skip)) <|
  .seq (.region [m 13 (.alloc 1 [o, o, o, o, o, o, o, o])]) <|
  .seq (.region [m 48 (.sliceArr 8 1 (t 13) none none), m 49 (.mov (t 10)), m 50 (.copyTo 1 (t 48) (t 49))]) <|
  .seq (.region [m 51 (.load (some 8) (t 13)), e (.store 8 (t 6) (t 51)), m 7 (.mov (.c q))]) <|
  .ret
def vf109 : VFun := ⟨52, 2, vb109, [.cell 6 (some 8), .tmp 7], false⟩
theorem cf109 : cFun Tryz.prog rawF false Tryz.f109 = some vf109 := by kernel_rfl
theorem T109 (h : HT σ args Post vb109 vf109 [dd, dd]) (hl : args.length ≤ 52 := by exact Nat.le_of_ble_eq_true rfl) : T Tryz.prog 109 args σ Post := T.walk Tryz.func109 cf109 hl rfl h
@[reducible] def vb110 : VC :=
  .seq (.region [m 6 (.alloc 0 [o, o, o, o, o, o, o, o])]) <|
  .seq (.region [m 7 (.mov (t 0)), m 8 (.mov (t 1)), m 9 (.indexArr 8 1 (t 6) (.c q)), e (.store 1 (t 9) (t 7)), m 10 (.indexArr 8 1 (t 6) (.c (i 1))), e (.store 1 (t 10) (t 8))]) <|
  .seq (.region [m 11 (.sliceArr 8 1 (t 6) (some (.c (i 2))) none), m 12 (.mov (t 2)), m 13 (.copyTo 1 (t 11) (t 12))]) <|
  .seq (.region [m 14 (.load (some 8) (t 6)), e (.store 8 (t 6) (t 14))]) <|
  .ret
def vf110 : VFun := ⟨15, 1, vb110, [.cell 6 (some 8)], false⟩
theorem cf110 : cFun Tryz.prog rawF false Tryz.f110 = some vf110 := by kernel_rfl
theorem T110 (h : HT σ args Post vb110 vf110 [dd]) (hl : args.length ≤ 15 := by exact Nat.le_of_ble_eq_true rfl) : T Tryz.prog 110 args σ Post := T.walk Tryz.func110 cf110 hl rfl h
@[reducible] def vb47 : VC :=
  .seq (.region [m 6 (.alloc 0 [(.str []), q, o, o, o, o, o, o, o, o, .nils, .nils, q, o, o, o, o, o, o, o, o, o, o, o, o, o, o, o, o, .nils])]) <|
  .seq (.region [m 7 (.mov (t 0)), m 8 (.mov (t 1)), m 9 (.mov (t 1)), m 10 (.convInt .u8 (t 9)), m 11 (.build [o, o, o, o, o, o, o, o] [(0, 1, (.c o)), (1, 1, (.c o)), (2, 1, (.c o)), (3, 1, (.c (b 1))), (4, 1, (.c o)), (5, 1, (.c o)), (6, 1, (.c o)), (7, 1, (t 10))]), m 12 (.mov (t 2)), m 13 (.call false 48 [(t 12)]), m 14 (.buildSlice 1 8 1 [o, o, o, o, o, o, o, o] [(0, (t 13))]), m 15 (.mov (t 2)), m 16 (.call false 48 [(t 15)]), m 17 (.buildSlice 2 8 1 [o, o, o, o, o, o, o, o] [(0, (t 16))]), m 18 (.build [(.str []), q, o, o, o, o, o, o, o, o, .nils, .nils, q, o, o, o, o, o, o, o, o, o, o, o, o, o, o, o, o, .nils] [(0, 1, (t 7)), (1, 1, (t 8)), (2, 8, (t 11)), (10, 1, (t 14)), (11, 1, (t 17))]), e (.store 30 (t 6) (t 18))]) <|
  .ret
def vf47 : VFun := ⟨19, 3, vb47, [.cell 6 (some 30)], false⟩
theorem cf47 : cFun Tryz.prog rawF false Tryz.f47 = some vf47 := by kernel_rfl
@[reducible] def vb48 : VC :=
  .seq (.region [m 2 (.alloc 0 [o, o, o, o, o, o, o, o])]) <|
  .seq (.region [m 3 (.mov (t 0)), m 4 (.build [o, o, o, o, o, o, o, o] [(0, 1, (.c o)), (1, 1, (.c (b 2))), (2, 1, (.c o)), (3, 1, (.c (b 1))), (4, 1, (.c o)), (5, 1, (.c o)), (6, 1, (.c o)), (7, 1, (t 3))]), e (.store 8 (t 2) (t 4))]) <|
  .ret
def vf48 : VFun := ⟨5, 1, vb48, [.cell 2 (some 8)], false⟩
theorem cf48 : cFun Tryz.prog rawF false Tryz.f48 = some vf48 := by kernel_rfl
end Go.Proofs.YtjhmobdncjhcnaaGreatDoor
