/- Functions of the program, in the small language. -/
import Derived.Test.YtjhmobdncjhcnaaGreatDoorF1
namespace Go.Proofs.YtjhmobdncjhcnaaGreatDoor
open Go Go.V D
end Go.Proofs.YtjhmobdncjhcnaaGreatDoor
/- Functions of the program, in the small language. -/
namespace Go.Proofs.YtjhmobdncjhcnaaGreatDoor
open Go Go.V D
end Go.Proofs.YtjhmobdncjhcnaaGreatDoor
/- Functions of the program, in the small language. -/
namespace Go.Proofs.YtjhmobdncjhcnaaGreatDoor
open Go Go.V D
@[reducible] def vb50 : VC :=
  .seq (.region [m 3 (.box 0 (t 0)), m 4 (.box 1 (t 1)), m 5 (.box 2 (t 2)), m 6 (.mov (.c (.bool false)))]) <|
  .seq (.seq (.region [m 13 (.load (some 132) (t 5)), m 14 (.call false 15 [(t 13)]), m 12 (.mov (t 14)), m 15 (.extract 0 (t 12)), m 16 (.extract 1 (t 12)), m 7 (.mov (t 15)), m 8 (.mov (t 16))]) <|
  .seq (.region [m 17 (.mov (t 8)), m 18 (.un .not (t 17))]) <|
  .cond (t 18) (.seq (.region [m 6 (.mov (.c (.bool false)))]) <|
  .ret) (.skip)) <|
  .seq (.region [m 9 (.mov (.c q))]) <|
  .seq (.block 0 <| .seq (.region [m 20 (.field 1 (t 5)), m 21 (.load none (t 20)), m 22 (.bin .eql .num (t 21) (.c (i 128))), m 19 (.mov (t 22))]) <|
  .cond (t 19) (.seq (.region [m 23 (.field 10 (t 3)), m 24 (.load none (t 23)), m 25 (.field 108 (t 5)), m 26 (.field 22 (t 25)), m 27 (.load none (t 26)), m 28 (.call false 106 [(t 24), (t 27)]), m 6 (.mov (t 28))]) <|
  .ret) (.seq (.region [m 30 (.field 2 (t 5)), m 31 (.field 0 (t 30)), m 32 (.load none (t 31)), m 33 (.bin .eql .num (t 32) (.c (i 6))), m 34 (.mov (t 33)), g 35 34 false (.field 2 (t 5)), g 36 34 false (.field 0 (t 35)), g 37 34 false (.load none (t 36)), g 38 34 false (.bin .eql .num (t 37) (.c (i 7))), m 39 (.pick (t 34) (.c (.bool true)) (t 38)), m 29 (.mov (t 39))]) <|
  .cond (t 29) (.region [m 40 (.field 1 (t 3)), m 41 (.load none (t 40)), m 9 (.mov (t 41))]) (.seq (.region [m 43 (.field 2 (t 5)), m 44 (.field 0 (t 43)), m 45 (.load none (t 44)), m 46 (.bin .neq .num (t 45) (.c (i 4))), m 42 (.mov (t 46))]) <|
  .cond (t 42) (.seq (.region [m 47 (.field 10 (t 3)), m 48 (.load none (t 47)), m 49 (.field 108 (t 5)), m 50 (.field 22 (t 49)), m 51 (.load none (t 50)), m 52 (.call false 106 [(t 48), (t 51)]), m 6 (.mov (t 52))]) <|
  .ret) (.skip)))) <|
  .seq (.region [m 54 (.load (some 17) (t 4)), m 55 (.mov (t 9)), m 56 (.call false 20 [(t 54), (t 55)]), m 53 (.mov (t 56)), m 57 (.extract 0 (t 53)), m 58 (.extract 1 (t 53)), m 10 (.alloc 3 [o, o, o, o, o, o, o, o]), e (.store 8 (t 10) (t 57)), m 11 (.mov (t 58))]) <|
  .seq (.region [m 59 (.mov (t 11)), m 60 (.bin .eql .num (t 59) (.c q)), m 61 (.mov (t 60)), g 62 61 true (.field 108 (t 5)), g 63 61 true (.field 22 (t 62)), g 64 61 true (.load none (t 63)), g 65 61 true (.load (some 8) (t 10)), g 66 61 true (.call false 107 [(t 64), (t 65)]), m 67 (.pick (t 61) (t 66) (.c (.bool false))), m 6 (.mov (t 67))]) <|
  .ret
def vf50 : VFun := ⟨68, 4, vb50, [.tmp 6], false⟩
theorem cf50 : cFun Go.Proofs.Tryz.prog rawF false Go.Proofs.Tryz.f50 = some vf50 := by kernel_rfl
theorem T50 {args : List PV} {σ : VHeap} {Post : KP} (h : belH σ.length σ → (∀ c, c ∈ args → bel σ.length c) → vrun Go.Proofs.Tryz.prog σ.length vb50 (argsEnv args) (σ ++ [dd, dd, dd, dd]) (vend vf50 (TrimP σ.length Post))) (hl : args.length ≤ 68 := by exact Nat.le_of_ble_eq_true rfl) : T Go.Proofs.Tryz.prog 50 args σ Post := T.walk Go.Proofs.Tryz.func50 cf50 hl rfl h
@[reducible] def vb106 : VC :=
  .seq (.region [m 3 (.box 0 (t 1)), m 4 (.mov (.c (.bool false)))]) <|
  .seq (.region [m 5 (.mov (t 0)), m 6 (.func 154 [(t 3)]), m 7 (.call false 118 [(t 5), (t 6)]), m 4 (.mov (t 7))]) <|
  .ret
def vf106 : VFun := ⟨8, 1, vb106, [.tmp 4], false⟩
theorem cf106 : cFun Go.Proofs.Tryz.prog rawF false Go.Proofs.Tryz.f106 = some vf106 := by kernel_rfl
theorem T106 {args : List PV} {σ : VHeap} {Post : KP} (h : belH σ.length σ → (∀ c, c ∈ args → bel σ.length c) → vrun Go.Proofs.Tryz.prog σ.length vb106 (argsEnv args) (σ ++ [dd]) (vend vf106 (TrimP σ.length Post))) (hl : args.length ≤ 8 := by exact Nat.le_of_ble_eq_true rfl) : T Go.Proofs.Tryz.prog 106 args σ Post := T.walk Go.Proofs.Tryz.func106 cf106 hl rfl h
@[reducible] def vb107 : VC :=
  .seq (.region [m 3 (.box 0 (t 1)), m 4 (.mov (.c (.bool false)))]) <|
  .seq (.region [m 5 (.mov (t 0)), m 6 (.load (some 8) (t 3)), m 7 (.call false 155 [(t 5), (t 6)]), m 8 (.bin .geq .num (t 7) (.c q)), m 4 (.mov (t 8))]) <|
  .ret
def vf107 : VFun := ⟨9, 1, vb107, [.tmp 4], false⟩
theorem cf107 : cFun Go.Proofs.Tryz.prog rawF false Go.Proofs.Tryz.f107 = some vf107 := by kernel_rfl
theorem T107 {args : List PV} {σ : VHeap} {Post : KP} (h : belH σ.length σ → (∀ c, c ∈ args → bel σ.length c) → vrun Go.Proofs.Tryz.prog σ.length vb107 (argsEnv args) (σ ++ [dd]) (vend vf107 (TrimP σ.length Post))) (hl : args.length ≤ 9 := by exact Nat.le_of_ble_eq_true rfl) : T Go.Proofs.Tryz.prog 107 args σ Post := T.walk Go.Proofs.Tryz.func107 cf107 hl rfl h
@[reducible] def vb154 : VC :=
  .seq (.region [m 2 (.box 0 (t 0)), m 3 (.mov (.c (.bool false)))]) <|
  .seq (.region [m 4 (.load (some 8) (t 2)), m 5 (.call false 100 [(t 4)]), m 6 (.bin .eql .num (t 5) (.c (i 1))), m 7 (.mov (t 6)), g 8 7 true (.load none (t 1)), g 9 7 true (.load (some 8) (t 2)), g 10 7 true (.call false 107 [(t 8), (t 9)]), m 11 (.pick (t 7) (t 10) (.c (.bool false))), m 3 (.mov (t 11))]) <|
  .ret
def vf154 : VFun := ⟨12, 1, vb154, [.tmp 3], false⟩
theorem cf154 : cFun Go.Proofs.Tryz.prog rawF false Go.Proofs.Tryz.f154 = some vf154 := by kernel_rfl
theorem T154 {args : List PV} {σ : VHeap} {Post : KP} (h : belH σ.length σ → (∀ c, c ∈ args → bel σ.length c) → vrun Go.Proofs.Tryz.prog σ.length vb154 (argsEnv args) (σ ++ [dd]) (vend vf154 (TrimP σ.length Post))) (hl : args.length ≤ 12 := by exact Nat.le_of_ble_eq_true rfl) : T Go.Proofs.Tryz.prog 154 args σ Post := T.walk Go.Proofs.Tryz.func154 cf154 hl rfl h
@[reducible] def vb155 : VC :=
  .seq (.region [m 3 (.box 0 (t 1)), m 4 (.mov (.c q))]) <|
  .seq (.seq (.region [m 6 (.mov (t 0)), m 7 (.len (t 6)), m 8 (.mov (.c q))]) <|
  .block 0 <| .loop <| .seq (.region [m 9 (.bin .lss .num (t 8) (t 7))]) <|
  .seq (.cond (t 9) (.skip) (.exit 0)) <|
  .seq (.block 1 <| .seq (.region [m 10 (.mov (t 8)), m 5 (.mov (t 10))]) <|
  .seq (.dreg [(m 11 (.load (some 8) (t 3)), []), (m 12 (.mov (t 0)), []), (m 13 (.mov (t 5)), []), (m 14 (.index 8 (t 12) (t 13)), [1, 2]), (m 15 (.load (some 8) (t 14)), [3]), (m 16 (.eqAgg [(.i .u8), (.i .u8), (.i .u8), (.i .u8), (.i .u8), (.i .u8), (.i .u8), (.i .u8)] false (t 11) (t 15)), [0, 4])] [(1, 0), (2, 1), (2, 2), (1, 3), (1, 4), (2, 5)] [0, 0, 0, 6, 14, 31]) <|
  .cond (t 16) (.seq (.region [m 17 (.mov (t 5)), m 4 (.mov (t 17))]) <|
  .ret) (.skip)) <|
  .region [m 18 (.bin .add .num (t 8) (.c (i 1))), m 8 (.mov (t 18))]) <|
  .seq (.region [m 4 (.mov (.c (i (-1))))]) <|
  .ret
def vf155 : VFun := ⟨19, 1, vb155, [.tmp 4], false⟩
theorem cf155 : cFun Go.Proofs.Tryz.prog rawF false Go.Proofs.Tryz.f155 = some vf155 := by kernel_rfl
theorem T155 {args : List PV} {σ : VHeap} {Post : KP} (h : belH σ.length σ → (∀ c, c ∈ args → bel σ.length c) → vrun Go.Proofs.Tryz.prog σ.length vb155 (argsEnv args) (σ ++ [dd]) (vend vf155 (TrimP σ.length Post))) (hl : args.length ≤ 19 := by exact Nat.le_of_ble_eq_true rfl) : T Go.Proofs.Tryz.prog 155 args σ Post := T.walk Go.Proofs.Tryz.func155 cf155 hl rfl h
@[reducible] def vb149 : VC :=
  .seq (.region [m 1 (.box 0 (t 0)), m 2 (.mov (.c .nilp))]) <|
  .seq (.region [m 3 (.sliceArr 8 1 (t 1) (some (.c (i 2))) none), m 4 (.call false 56 [(t 3)]), m 2 (.mov (t 4))]) <|
  .ret
def vf149 : VFun := ⟨5, 1, vb149, [.tmp 2], false⟩
theorem cf149 : cFun Go.Proofs.Tryz.prog rawF false Go.Proofs.Tryz.f149 = some vf149 := by kernel_rfl
@[reducible] def vb102 : VC :=
  .seq (.region [m 1 (.box 0 (t 0)), m 2 (.alloc 1 [q, o, o, o, o, o, o, o, o, o, o, o, o, o, o, o, o]), m 3 (.mov (.c q)), m 4 (.mov (.c (.bool false)))]) <|
  .seq (.seq (.region [m 8 (.load (some 8) (t 1)), m 9 (.call false 100 [(t 8)]), m 10 (.bin .neq .num (t 9) (.c (i 2)))]) <|
  .cond (t 10) (.seq (.region [m 11 (.build [q, o, o, o, o, o, o, o, o, o, o, o, o, o, o, o, o] []), e (.store 17 (t 2) (t 11)), m 3 (.mov (.c q)), m 4 (.mov (.c (.bool false)))]) <|
  .ret) (.skip)) <|
  .seq (.region [m 12 (.load (some 8) (t 1)), m 13 (.call false 149 [(t 12)]), m 5 (.mov (t 13))]) <|
  .seq (.region [m 15 (.mov (t 5)), m 16 (.call false 150 [(t 15), (.c (i 4))]), m 17 (.call false 148 [(t 16)]), m 14 (.mov (t 17)), m 18 (.extract 0 (t 14)), m 19 (.extract 1 (t 14)), m 6 (.alloc 2 [q, o, o, o, o, o, o, o, o, o, o, o, o, o, o, o, o]), e (.store 17 (t 6) (t 18)), m 7 (.mov (t 19))]) <|
  .seq (.dreg [(m 20 (.load (some 17) (t 6)), []), (m 21 (.mov (t 5)), []), (m 22 (.call false 58 [(t 21), (.c (i 2))]), [1]), (e (.store 17 (t 2) (t 20)), [0, 2, 0]), (m 3 (.mov (t 22)), [2, 3, 0, 1, 2, 3]), (m 4 (.mov (.c (.bool true))), [4, 0, 1, 2, 3, 4])] [(2, 0), (2, 1), (0, 2), (0, 3), (2, 4), (2, 5)] [0, 0, 2, 7, 15, 31]) <|
  .ret
def vf102 : VFun := ⟨23, 3, vb102, [.cell 2 (some 17), .tmp 3, .tmp 4], false⟩
theorem cf102 : cFun Go.Proofs.Tryz.prog rawF false Go.Proofs.Tryz.f102 = some vf102 := by kernel_rfl
theorem T102 {args : List PV} {σ : VHeap} {Post : KP} (h : belH σ.length σ → (∀ c, c ∈ args → bel σ.length c) → vrun Go.Proofs.Tryz.prog σ.length vb102 (argsEnv args) (σ ++ [dd, dd, dd]) (vend vf102 (TrimP σ.length Post))) (hl : args.length ≤ 23 := by exact Nat.le_of_ble_eq_true rfl) : T Go.Proofs.Tryz.prog 102 args σ Post := T.walk Go.Proofs.Tryz.func102 cf102 hl rfl h
@[reducible] def vb105 : VC :=
  .seq (.region [m 1 (.box 0 (t 0)), m 2 (.mov (.c q)), m 3 (.mov (.c (.bool false)))]) <|
  .seq (.seq (.region [m 4 (.load (some 8) (t 1)), m 5 (.call false 100 [(t 4)]), m 6 (.bin .neq .num (t 5) (.c (i 3)))]) <|
  .cond (t 6) (.seq (.region [m 2 (.mov (.c q)), m 3 (.mov (.c (.bool false)))]) <|
  .ret) (.skip)) <|
  .seq (.region [m 7 (.load (some 8) (t 1)), m 8 (.call false 149 [(t 7)]), m 9 (.call false 58 [(t 8), (.c (i 4))]), m 2 (.mov (t 9)), m 3 (.mov (.c (.bool true)))]) <|
  .ret
def vf105 : VFun := ⟨10, 1, vb105, [.tmp 2, .tmp 3], false⟩
theorem cf105 : cFun Go.Proofs.Tryz.prog rawF false Go.Proofs.Tryz.f105 = some vf105 := by kernel_rfl
theorem T105 {args : List PV} {σ : VHeap} {Post : KP} (h : belH σ.length σ → (∀ c, c ∈ args → bel σ.length c) → vrun Go.Proofs.Tryz.prog σ.length vb105 (argsEnv args) (σ ++ [dd]) (vend vf105 (TrimP σ.length Post))) (hl : args.length ≤ 10 := by exact Nat.le_of_ble_eq_true rfl) : T Go.Proofs.Tryz.prog 105 args σ Post := T.walk Go.Proofs.Tryz.func105 cf105 hl rfl h
@[reducible] def vb76 : VC :=
  .seq (.region [m 2 (.box 0 (t 0)), m 3 (.box 1 (t 1)), m 4 (.mov (.c (.bool false)))]) <|
  .seq (.dreg [(m 5 (.load (some 18) (t 2)), []), (m 6 (.call false 124 [(t 5)]), [0]), (m 7 (.mov (t 6)), [1, 1]), (g 8 7 true (.load (some 17) (t 3)), [2]), (g 9 7 true (.call false 54 [(t 8)]), [3, 2, 2]), (m 10 (.pick (t 7) (t 9) (.c (.bool false))), [2, 4]), (m 11 (.mov (t 10)), [5, 4]), (g 12 11 true (.field 0 (t 3)), [6]), (g 13 11 true (.load none (t 12)), [7, 6]), (g 14 11 true (.field 0 (t 2)), [6]), (g 15 11 true (.field 0 (t 14)), [9, 6]), (g 16 11 true (.load none (t 15)), [10, 6]), (g 17 11 true (.bin .eql .num (t 13) (t 16)), [8, 11, 6]), (m 18 (.pick (t 11) (t 17) (.c (.bool false))), [6, 12]), (m 19 (.mov (t 18)), [13, 6]), (g 20 19 true (.load (some 17) (t 3)), [14]), (g 21 19 true (.field 17 (t 2)), [14]), (g 22 19 true (.load none (t 21)), [16, 14]), (g 23 19 true (.call false 125 [(t 20), (t 22)]), [15, 17, 14, 14]), (g 24 19 true (.field 0 (t 2)), [14]), (g 25 19 true (.load (some 17) (t 24)), [19, 14]), (g 26 19 true (.eqAgg [(.i .i64), (.i .u8), (.i .u8), (.i .u8), (.i .u8), (.i .u8), (.i .u8), (.i .u8), (.i .u8), (.i .u8), (.i .u8), (.i .u8), (.i .u8), (.i .u8), (.i .u8), (.i .u8), (.i .u8)] false (t 23) (t 25)), [18, 20, 14]), (m 27 (.pick (t 19) (t 26) (.c (.bool false))), [14, 21]), (m 4 (.mov (t 27)), [22, 18, 0, 1, 2, 3, 4, 5, 6, 7, 8, 9, 10, 11, 12, 13, 14, 15, 16, 17, 18, 19, 20, 21, 22])] [(1, 0), (1, 1), (2, 2), (1, 3), (1, 4), (2, 5), (2, 6), (1, 7), (1, 8), (1, 9), (1, 10), (1, 11), (2, 12), (2, 13), (2, 14), (1, 15), (1, 16), (1, 17), (1, 18), (1, 19), (1, 20), (2, 21), (2, 22), (2, 23)] [0, 1, 3, 7, 15, 31, 63, 127, 255, 127, 639, 1663, 4095, 8191, 16383, 32767, 32767, 98303, 262143, 32767, 557055, 2097151, 4194303, 8388607]) <|
  .ret
def vf76 : VFun := ⟨28, 2, vb76, [.tmp 4], false⟩
theorem cf76 : cFun Go.Proofs.Tryz.prog rawF false Go.Proofs.Tryz.f76 = some vf76 := by kernel_rfl
theorem T76 {args : List PV} {σ : VHeap} {Post : KP} (h : belH σ.length σ → (∀ c, c ∈ args → bel σ.length c) → vrun Go.Proofs.Tryz.prog σ.length vb76 (argsEnv args) (σ ++ [dd, dd]) (vend vf76 (TrimP σ.length Post))) (hl : args.length ≤ 28 := by exact Nat.le_of_ble_eq_true rfl) : T Go.Proofs.Tryz.prog 76 args σ Post := T.walk Go.Proofs.Tryz.func76 cf76 hl rfl h
@[reducible] def vb77 : VC :=
  .seq (.region [m 2 (.box 0 (t 0)), m 4 (.alloc 1 [o, o, o, o, o, o, o, o]), m 5 (.mov (.c q))]) <|
  .seq (.seq (.region [m 8 (.load (some 17) (t 2)), m 9 (.call false 54 [(t 8)]), m 10 (.un .not (t 9)), m 11 (.mov (t 10)), g 12 11 false (.field 0 (t 2)), g 13 11 false (.load none (t 12)), g 14 11 false (.bin .neq .num (t 13) (.c (i 4))), m 15 (.pick (t 11) (.c (.bool true)) (t 14))]) <|
  .cond (t 15) (.seq (.region [m 16 (.build [o, o, o, o, o, o, o, o] []), e (.store 8 (t 4) (t 16)), m 5 (.mov (.c (i 1)))]) <|
  .ret) (.skip)) <|
  .seq (.region [m 18 (.load (some 17) (t 2)), m 19 (.call false 57 [(t 18)]), m 20 (.mov (t 1)), m 21 (.call false 126 [(t 19), (t 20), (.c (i 2))]), m 17 (.mov (t 21)), m 22 (.extract 0 (t 17)), m 23 (.extract 1 (t 17)), m 6 (.mov (t 22)), m 7 (.mov (t 23))]) <|
  .seq (.seq (.region [m 24 (.mov (t 7)), m 25 (.bin .neq .num (t 24) (.c q))]) <|
  .cond (t 25) (.seq (.region [m 26 (.build [o, o, o, o, o, o, o, o] []), m 27 (.mov (t 7)), e (.store 8 (t 4) (t 26)), m 5 (.mov (t 27))]) <|
  .ret) (.skip)) <|
  .seq (.region [m 28 (.mov (t 6)), m 29 (.call false 110 [(.c (b 1)), (.c (b 11)), (t 28)]), e (.store 8 (t 4) (t 29)), m 5 (.mov (.c q))]) <|
  .ret
def vf77 : VFun := ⟨30, 2, vb77, [.cell 4 (some 8), .tmp 5], false⟩
theorem cf77 : cFun Go.Proofs.Tryz.prog rawF false Go.Proofs.Tryz.f77 = some vf77 := by kernel_rfl
theorem T77 {args : List PV} {σ : VHeap} {Post : KP} (h : belH σ.length σ → (∀ c, c ∈ args → bel σ.length c) → vrun Go.Proofs.Tryz.prog σ.length vb77 (argsEnv args) (σ ++ [dd, dd]) (vend vf77 (TrimP σ.length Post))) (hl : args.length ≤ 30 := by exact Nat.le_of_ble_eq_true rfl) : T Go.Proofs.Tryz.prog 77 args σ Post := T.walk Go.Proofs.Tryz.func77 cf77 hl rfl h
end Go.Proofs.YtjhmobdncjhcnaaGreatDoor
