/- Functions of the program, in the small language. -/
import Derived.Test.YtocnjlfnapefjaaGreatDoorVZ
namespace Go.Proofs.YtocnjlfnapefjaaGreatDoor
open Go Go.V D

/-- vinery/vinerylaw14.SessionHolds -/
@[reducible] def vb3 : VC :=
  .seq (.region [m 4 (.mov (.c (.bool false)))]) <|
  .seq (.region [m 15 (.call false 7 []), m 5 (.mov (t 15))]) <|
  .seq (.region [m 16 (.mov (t 0)), m 17 (.bin .and .num (t 16) (.c (i 63))), m 18 (.bin .add .num (.c (i 3)) (t 17)), m 19 (.call false 8 [(.c (b 1)), (t 18)]), m 6 (.alloc 0 [(i 0), (i 0), (b 0), (b 0), (b 0), (b 0), (b 0), (b 0), (b 0), (b 0), (b 0), (b 0), (b 0), (b 0), (b 0), (b 0), (b 0), (b 0), (i 0), (i 0), .nils]), e (.store 21 (t 6) (t 19))]) <|
  .seq (.region [m 21 (.load (some 21) (t 6)), m 22 (.call false 9 [(t 21)]), m 20 (.mov (t 22)), m 23 (.extract 0 (t 20)), m 24 (.extract 1 (t 20)), m 7 (.mov (t 23)), m 8 (.mov (t 24))]) <|
  .seq (.seq (.region [m 25 (.mov (t 5)), m 26 (.un .not (t 25)), m 27 (.mov (t 26)), g 28 27 false (.mov (t 8)), g 29 27 false (.bin .neq .num (t 28) (.c (i 0))), m 30 (.pick (t 27) (.c (.bool true)) (t 29)), m 31 (.mov (t 30)), g 32 31 false (.mov (t 7)), g 33 31 false (.bin .eql .ptr (t 32) (.c .nilp)), m 34 (.pick (t 31) (.c (.bool true)) (t 33))]) <|
  .cond (t 34) (.seq (.region [m 4 (.mov (.c (.bool false)))]) <|
  .ret) (.skip)) <|
  .seq (.region [m 35 (.mov (t 0)), m 36 (.bin .and .num (t 35) (.c (i 63))), m 37 (.bin .add .num (.c (i 3)) (t 36)), m 38 (.mov (t 1)), m 39 (.bin .and .num (t 38) (.c (i 63))), m 40 (.bin .add .num (.c (i 3)) (t 39)), m 41 (.minmax false (t 37) (t 40)), m 9 (.mov (t 41))]) <|
  .seq (.region [m 42 (.mov (t 7)), m 43 (.build [(i 0), (i 0), (i 0), (i 0), (i 0), (b 0), (b 0), (b 0), (b 0), (b 0), (b 0), (b 0), (b 0), (b 0), (b 0), (b 0), (b 0), (b 0), (b 0), (b 0), (b 0), .nils, (.bool false), (i 0), .nils, (i 0), (i 0), (i 0), (b 0), (b 0), (b 0), (b 0), (b 0), (b 0), (b 0), (b 0), (b 0), (b 0), (b 0), (b 0), (b 0), (b 0), (b 0), (b 0), .nils, .nils, .nils, .nils, .nils, (i 0), (i 0), .nils, (i 0), (i 0), (i 0), (i 0), (i 0), .nils] [(0, 1, (.c (i 1)))]), m 44 (.call false 10 [(t 42), (t 43)])]) <|
  .seq (.region [m 45 (.mov (t 7)), m 46 (.build [(i 0), (i 0), (i 0), (i 0), (i 0), (b 0), (b 0), (b 0), (b 0), (b 0), (b 0), (b 0), (b 0), (b 0), (b 0), (b 0), (b 0), (b 0), (b 0), (b 0), (b 0), .nils, (.bool false), (i 0), .nils, (i 0), (i 0), (i 0), (b 0), (b 0), (b 0), (b 0), (b 0), (b 0), (b 0), (b 0), (b 0), (b 0), (b 0), (b 0), (b 0), (b 0), (b 0), (b 0), .nils, .nils, .nils, .nils, .nils, (i 0), (i 0), .nils, (i 0), (i 0), (i 0), (i 0), (i 0), .nils] [(0, 1, (.c (i 3)))]), m 47 (.call false 10 [(t 45), (t 46)])]) <|
  .seq (.region [m 48 (.mov (t 7)), m 49 (.mov (t 1)), m 50 (.bin .and .num (t 49) (.c (i 63))), m 51 (.bin .add .num (.c (i 3)) (t 50)), m 52 (.call false 11 [(.c (b 10)), (.c (b 0)), (.c (b 0)), (.c (b 2))]), m 53 (.build [(i 0), (i 0), (i 0), (b 0), (b 0), (b 0), (b 0), (b 0), (b 0), (b 0), (b 0), (b 0), (b 0), (b 0), (b 0), (b 0), (b 0), (b 0), (b 0), .nils, (.bool false)] [(0, 1, (.c (i 65000))), (1, 1, (t 51)), (2, 17, (t 52))]), m 54 (.build [(i 0), (i 0), (i 0), (i 0), (b 0), (b 0), (b 0), (b 0), (b 0), (b 0), (b 0), (b 0), (b 0), (b 0), (b 0), (b 0), (b 0), (b 0), (b 0), (b 0), .nils, (.bool false), (i 0), .nils, (i 0), (i 0), (i 0), (b 0), (b 0), (b 0), (b 0), (b 0), (b 0), (b 0), (b 0), (b 0), (b 0), (b 0), (b 0), (b 0), (b 0), (b 0), (b 0), .nils, .nils, .nils, .nils, .nils, (i 0), (i 0), .nils, (i 0), (i 0)] [(0, 1, (.c (i 1))), (1, 21, (t 53))]), m 55 (.build [(i 0), (i 0), (i 0), (i 0), (b 0), (b 0), (b 0), (b 0), (b 0), (b 0), (b 0), (b 0), (b 0), (b 0), (b 0), (b 0), (b 0), (b 0), (b 0), (b 0), .nils, (.bool false), (i 0), .nils, (i 0), (i 0), (i 0), (b 0), (b 0), (b 0), (b 0), (b 0), (b 0), (b 0), (b 0), (b 0), (b 0), (b 0), (b 0), (b 0), (b 0), (b 0), (b 0), .nils, .nils, .nils, .nils, .nils, (i 0), (i 0), .nils, (i 0), (i 0), (i 0)] [(0, 53, (t 54))]), m 56 (.build [(i 0), (i 0), (i 0), (i 0), (i 0), (b 0), (b 0), (b 0), (b 0), (b 0), (b 0), (b 0), (b 0), (b 0), (b 0), (b 0), (b 0), (b 0), (b 0), (b 0), (b 0), .nils, (.bool false), (i 0), .nils, (i 0), (i 0), (i 0), (b 0), (b 0), (b 0), (b 0), (b 0), (b 0), (b 0), (b 0), (b 0), (b 0), (b 0), (b 0), (b 0), (b 0), (b 0), (b 0), .nils, .nils, .nils, .nils, .nils, (i 0), (i 0), .nils, (i 0), (i 0), (i 0), (i 0), (i 0), .nils] [(0, 1, (.c (i 5))), (1, 54, (t 55))]), m 57 (.call false 10 [(t 48), (t 56)])]) <|
  .seq (.region [m 58 (.mov (t 7)), m 59 (.build [(i 0), (i 0), (i 0), (i 0), (b 0), (b 0), (b 0), (b 0), (b 0), (b 0), (b 0), (b 0), (b 0), (b 0), (b 0), (b 0), (b 0), (b 0), (b 0), (b 0), .nils, (.bool false), (i 0), .nils, (i 0), (i 0), (i 0), (b 0), (b 0), (b 0), (b 0), (b 0), (b 0), (b 0), (b 0), (b 0), (b 0), (b 0), (b 0), (b 0), (b 0), (b 0), (b 0), .nils, .nils, .nils, .nils, .nils, (i 0), (i 0), .nils, (i 0), (i 0)] [(0, 1, (.c (i 4)))]), m 60 (.build [(i 0), (i 0), (i 0), (i 0), (b 0), (b 0), (b 0), (b 0), (b 0), (b 0), (b 0), (b 0), (b 0), (b 0), (b 0), (b 0), (b 0), (b 0), (b 0), (b 0), .nils, (.bool false), (i 0), .nils, (i 0), (i 0), (i 0), (b 0), (b 0), (b 0), (b 0), (b 0), (b 0), (b 0), (b 0), (b 0), (b 0), (b 0), (b 0), (b 0), (b 0), (b 0), (b 0), .nils, .nils, .nils, .nils, .nils, (i 0), (i 0), .nils, (i 0), (i 0), (i 0)] [(0, 53, (t 59))]), m 61 (.build [(i 0), (i 0), (i 0), (i 0), (i 0), (b 0), (b 0), (b 0), (b 0), (b 0), (b 0), (b 0), (b 0), (b 0), (b 0), (b 0), (b 0), (b 0), (b 0), (b 0), (b 0), .nils, (.bool false), (i 0), .nils, (i 0), (i 0), (i 0), (b 0), (b 0), (b 0), (b 0), (b 0), (b 0), (b 0), (b 0), (b 0), (b 0), (b 0), (b 0), (b 0), (b 0), (b 0), (b 0), .nils, .nils, .nils, .nils, .nils, (i 0), (i 0), .nils, (i 0), (i 0), (i 0), (i 0), (i 0), .nils] [(0, 1, (.c (i 5))), (1, 54, (t 60))]), m 62 (.call false 10 [(t 58), (t 61)])]) <|
  .seq (.region [m 10 (.mov (.c (i 0)))]) <|
  .seq (.seq (.region [m 11 (.mov (.c (i 1)))]) <|
  .block 0 <| .loop <| .seq (.seq (.region [m 63 (.mov (t 11)), m 64 (.mov (t 9)), m 65 (.bin .lss .num (t 63) (t 64))]) <|
  .cond (t 65) (.skip) (.exit 0)) <|
  .seq (.block 1 <| .seq (.region [m 68 (.mov (t 7)), m 69 (.build [(i 0), (i 0), (i 0), (i 0), (i 0), (b 0), (b 0), (b 0), (b 0), (b 0), (b 0), (b 0), (b 0), (b 0), (b 0), (b 0), (b 0), (b 0), (b 0), (b 0), (b 0), .nils, (.bool false), (i 0), .nils, (i 0), (i 0), (i 0), (b 0), (b 0), (b 0), (b 0), (b 0), (b 0), (b 0), (b 0), (b 0), (b 0), (b 0), (b 0), (b 0), (b 0), (b 0), (b 0), .nils, .nils, .nils, .nils, .nils, (i 0), (i 0), .nils, (i 0), (i 0), (i 0), (i 0), (i 0), .nils] [(0, 1, (.c (i 7)))]), m 70 (.call false 10 [(t 68), (t 69)]), m 12 (.alloc 1 [.nils, (.bool false), (.bool false), (.bool false), (.bool false)]), e (.store 5 (t 12) (t 70))]) <|
  .seq (.region [m 71 (.mov (t 10)), m 72 (.field 0 (t 12)), m 73 (.load none (t 72)), m 74 (.len (t 73)), m 75 (.bin .add .num (t 71) (t 74)), m 10 (.mov (t 75))]) <|
  .seq (.region [m 76 (.mov (t 7)), m 77 (.call false 12 [(t 76)]), m 78 (.bin .neq .num (t 77) (.c (i 4))), m 79 (.mov (t 78)), g 80 79 false (.field 4 (t 12)), g 81 79 false (.load none (t 80)), m 82 (.pick (t 79) (.c (.bool true)) (t 81))]) <|
  .cond (t 82) (.seq (.region [m 4 (.mov (.c (.bool false)))]) <|
  .ret) (.skip)) <|
  .region [m 66 (.mov (t 11)), m 67 (.bin .add .num (t 66) (.c (i 1))), m 11 (.mov (t 67))]) <|
  .seq (.region [m 83 (.mov (t 7)), m 84 (.build [(i 0), (i 0), (i 0), (i 0), (i 0), (b 0), (b 0), (b 0), (b 0), (b 0), (b 0), (b 0), (b 0), (b 0), (b 0), (b 0), (b 0), (b 0), (b 0), (b 0), (b 0), .nils, (.bool false), (i 0), .nils, (i 0), (i 0), (i 0), (b 0), (b 0), (b 0), (b 0), (b 0), (b 0), (b 0), (b 0), (b 0), (b 0), (b 0), (b 0), (b 0), (b 0), (b 0), (b 0), .nils, .nils, .nils, .nils, .nils, (i 0), (i 0), .nils, (i 0), (i 0), (i 0), (i 0), (i 0), .nils] [(0, 1, (.c (i 7)))]), m 85 (.call false 10 [(t 83), (t 84)]), m 13 (.alloc 2 [.nils, (.bool false), (.bool false), (.bool false), (.bool false)]), e (.store 5 (t 13) (t 85))]) <|
  .seq (.region [m 86 (.field 0 (t 13)), m 87 (.load none (t 86)), m 88 (.len (t 87)), m 14 (.mov (t 88))]) <|
  .seq (.region [m 89 (.mov (t 10)), m 90 (.bin .geq .num (t 89) (.c (i 2))), m 91 (.mov (t 90)), g 92 91 true (.field 4 (t 13)), g 93 91 true (.load none (t 92)), m 94 (.pick (t 91) (t 93) (.c (.bool false))), m 95 (.mov (t 94)), g 96 95 true (.field 2 (t 13)), g 97 95 true (.load none (t 96)), m 98 (.pick (t 95) (t 97) (.c (.bool false))), m 99 (.mov (t 98)), g 100 99 true (.mov (t 14)), g 101 99 true (.bin .geq .num (t 100) (.c (i 1))), m 102 (.pick (t 99) (t 101) (.c (.bool false))), m 103 (.mov (t 102)), g 104 103 true (.field 0 (t 13)), g 105 103 true (.load none (t 104)), g 106 103 true (.mov (t 14)), g 107 103 true (.bin .sub .num (t 106) (.c (i 1))), g 108 103 true (.index 53 (t 105) (t 107)), g 109 103 true (.field 0 (t 108)), g 110 103 true (.load none (t 109)), g 111 103 true (.bin .eql .num (t 110) (.c (i 3))), m 112 (.pick (t 103) (t 111) (.c (.bool false))), m 113 (.mov (t 112)), g 114 113 true (.field 0 (t 13)), g 115 113 true (.load none (t 114)), g 116 113 true (.mov (t 14)), g 117 113 true (.bin .sub .num (t 116) (.c (i 1))), g 118 113 true (.index 53 (t 115) (t 117)), g 119 113 true (.field 48 (t 118)), g 120 113 true (.field 0 (t 119)), g 121 113 true (.load none (t 120)), g 122 113 true (.bin .eql .num (t 121) (.c (i 4))), m 123 (.pick (t 113) (t 122) (.c (.bool false))), m 124 (.mov (t 123)), g 125 124 true (.mov (t 7)), g 126 124 true (.call false 12 [(t 125)]), g 127 124 true (.bin .eql .num (t 126) (.c (i 0))), m 128 (.pick (t 124) (t 127) (.c (.bool false))), m 4 (.mov (t 128))]) <|
  .ret
def vf3 : VFun := ⟨129, 3, vb3, [.tmp 4], false⟩
theorem cf3 : cFun Go.Proofs.Tryz.prog rawF false Go.Proofs.Tryz.f3 = some vf3 := by kernel_rfl
theorem T3 {args : List PV} {σ : VHeap} {Post : KP} (h : belH σ.length σ → (∀ c, c ∈ args → bel σ.length c) → vrun Go.Proofs.Tryz.prog σ.length vb3 (argsEnv args) (σ ++ [dd, dd, dd]) (vend vf3 (TrimP σ.length Post))) (hl : args.length ≤ 129 := by exact Nat.le_of_ble_eq_true rfl) : T Go.Proofs.Tryz.prog 3 args σ Post := T.walk Go.Proofs.Tryz.func3 cf3 hl rfl h

/-- vinery/vinerylaw14.SessionStops -/
@[reducible] def vb4 : VC :=
  .seq (.region [m 3 (.box 0 (t 0)), m 6 (.mov (.c (.bool false)))]) <|
  .seq (.region [m 14 (.call false 7 []), m 7 (.mov (t 14))]) <|
  .seq (.region [m 16 (.load (some 21) (t 3)), m 17 (.call false 9 [(t 16)]), m 15 (.mov (t 17)), m 18 (.extract 0 (t 15)), m 19 (.extract 1 (t 15)), m 8 (.mov (t 18)), m 9 (.mov (t 19))]) <|
  .seq (.seq (.region [m 20 (.mov (t 7)), m 21 (.un .not (t 20)), m 22 (.mov (t 21)), g 23 22 false (.mov (t 9)), g 24 22 false (.bin .neq .num (t 23) (.c (i 0))), m 25 (.pick (t 22) (.c (.bool true)) (t 24)), m 26 (.mov (t 25)), g 27 26 false (.mov (t 8)), g 28 26 false (.bin .eql .ptr (t 27) (.c .nilp)), m 29 (.pick (t 26) (.c (.bool true)) (t 28))]) <|
  .cond (t 29) (.seq (.region [m 30 (.mov (t 7)), m 31 (.mov (t 30)), g 32 31 true (.mov (t 9)), g 33 31 true (.bin .neq .num (t 32) (.c (i 0))), g 34 31 true (.mov (t 8)), g 35 31 true (.bin .eql .ptr (t 34) (.c .nilp)), g 36 31 true (.bin .eql .bool (t 33) (t 35)), m 37 (.pick (t 31) (t 36) (.c (.bool false))), m 6 (.mov (t 37))]) <|
  .ret) (.skip)) <|
  .seq (.seq (.region [m 10 (.mov (.c (i 0)))]) <|
  .block 0 <| .loop <| .seq (.seq (.region [m 38 (.mov (t 10)), m 39 (.mov (t 1)), m 40 (.len (t 39)), m 41 (.bin .lss .num (t 38) (t 40)), m 42 (.mov (t 41)), g 43 42 true (.mov (t 10)), g 44 42 true (.bin .lss .num (t 43) (.c (i 80))), m 45 (.pick (t 42) (t 44) (.c (.bool false)))]) <|
  .cond (t 45) (.skip) (.exit 0)) <|
  .seq (.block 1 <| .region [m 48 (.mov (t 8)), m 49 (.mov (t 1)), m 50 (.mov (t 10)), m 51 (.index 58 (t 49) (t 50)), m 52 (.load (some 58) (t 51)), m 53 (.call false 10 [(t 48), (t 52)])]) <|
  .region [m 46 (.mov (t 10)), m 47 (.bin .add .num (t 46) (.c (i 1))), m 10 (.mov (t 47))]) <|
  .seq (.region [m 54 (.mov (t 8)), m 55 (.build [(i 0), (i 0), (i 0), (i 0), (i 0), (b 0), (b 0), (b 0), (b 0), (b 0), (b 0), (b 0), (b 0), (b 0), (b 0), (b 0), (b 0), (b 0), (b 0), (b 0), (b 0), .nils, (.bool false), (i 0), .nils, (i 0), (i 0), (i 0), (b 0), (b 0), (b 0), (b 0), (b 0), (b 0), (b 0), (b 0), (b 0), (b 0), (b 0), (b 0), (b 0), (b 0), (b 0), (b 0), .nils, .nils, .nils, .nils, .nils, (i 0), (i 0), .nils, (i 0), (i 0), (i 0), (i 0), (i 0), .nils] [(0, 1, (.c (i 2)))]), m 56 (.call false 10 [(t 54), (t 55)])]) <|
  .seq (.seq (.region [m 57 (.mov (t 8)), m 58 (.call false 12 [(t 57)]), m 59 (.bin .neq .num (t 58) (.c (i 0)))]) <|
  .cond (t 59) (.seq (.region [m 6 (.mov (.c (.bool false)))]) <|
  .ret) (.skip)) <|
  .seq (.seq (.region [m 11 (.mov (.c (i 0)))]) <|
  .block 2 <| .loop <| .seq (.seq (.region [m 60 (.mov (t 11)), m 61 (.mov (t 2)), m 62 (.len (t 61)), m 63 (.bin .lss .num (t 60) (t 62)), m 64 (.mov (t 63)), g 65 64 true (.mov (t 11)), g 66 64 true (.bin .lss .num (t 65) (.c (i 80))), m 67 (.pick (t 64) (t 66) (.c (.bool false)))]) <|
  .cond (t 67) (.skip) (.exit 2)) <|
  .seq (.block 3 <| .seq (.seq (.region [m 70 (.mov (t 2)), m 71 (.mov (t 11)), m 72 (.index 58 (t 70) (t 71)), m 73 (.field 0 (t 72)), m 74 (.load none (t 73)), m 75 (.bin .eql .num (t 74) (.c (i 1)))]) <|
  .cond (t 75) (.exit 3) (.skip)) <|
  .seq (.region [m 76 (.mov (t 8)), m 77 (.mov (t 2)), m 78 (.mov (t 11)), m 79 (.index 58 (t 77) (t 78)), m 80 (.load (some 58) (t 79)), m 81 (.call false 10 [(t 76), (t 80)]), m 12 (.alloc 1 [.nils, (.bool false), (.bool false), (.bool false), (.bool false)]), e (.store 5 (t 12) (t 81))]) <|
  .seq (.region [m 82 (.mov (t 8)), m 83 (.call false 12 [(t 82)]), m 84 (.bin .neq .num (t 83) (.c (i 0))), m 85 (.mov (t 84)), g 86 85 false (.field 1 (t 12)), g 87 85 false (.load none (t 86)), m 88 (.pick (t 85) (.c (.bool true)) (t 87)), m 89 (.mov (t 88)), g 90 89 false (.field 3 (t 12)), g 91 89 false (.load none (t 90)), m 92 (.pick (t 89) (.c (.bool true)) (t 91)), m 93 (.mov (t 92)), g 94 93 false (.field 4 (t 12)), g 95 93 false (.load none (t 94)), m 96 (.pick (t 93) (.c (.bool true)) (t 95)), m 97 (.mov (t 96)), g 98 97 false (.field 2 (t 12)), g 99 97 false (.load none (t 98)), m 100 (.pick (t 97) (.c (.bool true)) (t 99)), m 101 (.mov (t 100)), g 102 101 false (.field 0 (t 12)), g 103 101 false (.load none (t 102)), g 104 101 false (.len (t 103)), g 105 101 false (.bin .neq .num (t 104) (.c (i 0))), m 106 (.pick (t 101) (.c (.bool true)) (t 105))]) <|
  .cond (t 106) (.seq (.region [m 6 (.mov (.c (.bool false)))]) <|
  .ret) (.skip)) <|
  .region [m 68 (.mov (t 11)), m 69 (.bin .add .num (t 68) (.c (i 1))), m 11 (.mov (t 69))]) <|
  .seq (.region [m 107 (.mov (t 8)), m 108 (.build [(i 0), (i 0), (i 0), (i 0), (i 0), (b 0), (b 0), (b 0), (b 0), (b 0), (b 0), (b 0), (b 0), (b 0), (b 0), (b 0), (b 0), (b 0), (b 0), (b 0), (b 0), .nils, (.bool false), (i 0), .nils, (i 0), (i 0), (i 0), (b 0), (b 0), (b 0), (b 0), (b 0), (b 0), (b 0), (b 0), (b 0), (b 0), (b 0), (b 0), (b 0), (b 0), (b 0), (b 0), .nils, .nils, .nils, .nils, .nils, (i 0), (i 0), .nils, (i 0), (i 0), (i 0), (i 0), (i 0), .nils] [(0, 1, (.c (i 1)))]), m 109 (.call false 10 [(t 107), (t 108)]), m 13 (.alloc 2 [.nils, (.bool false), (.bool false), (.bool false), (.bool false)]), e (.store 5 (t 13) (t 109))]) <|
  .seq (.region [m 110 (.field 1 (t 13)), m 111 (.load none (t 110)), m 112 (.mov (t 111)), g 113 112 true (.mov (t 8)), g 114 112 true (.call false 12 [(t 113)]), g 115 112 true (.bin .eql .num (t 114) (.c (i 1))), m 116 (.pick (t 112) (t 115) (.c (.bool false))), m 6 (.mov (t 116))]) <|
  .ret
def vf4 : VFun := ⟨117, 3, vb4, [.tmp 6], false⟩
theorem cf4 : cFun Go.Proofs.Tryz.prog rawF false Go.Proofs.Tryz.f4 = some vf4 := by kernel_rfl
theorem T4 {args : List PV} {σ : VHeap} {Post : KP} (h : belH σ.length σ → (∀ c, c ∈ args → bel σ.length c) → vrun Go.Proofs.Tryz.prog σ.length vb4 (argsEnv args) (σ ++ [dd, dd, dd]) (vend vf4 (TrimP σ.length Post))) (hl : args.length ≤ 117 := by exact Nat.le_of_ble_eq_true rfl) : T Go.Proofs.Tryz.prog 4 args σ Post := T.walk Go.Proofs.Tryz.func4 cf4 hl rfl h

/-- vinery/vinerylaw14.SessionAgrees -/
@[reducible] def vb5 : VC :=
  .seq (.region [m 2 (.box 0 (t 0)), m 3 (.box 1 (t 1)), m 4 (.mov (.c (.bool false)))]) <|
  .seq (.region [m 17 (.call false 7 []), m 5 (.mov (t 17))]) <|
  .seq (.seq (.region [m 18 (.field 20 (t 2)), m 19 (.load none (t 18)), m 20 (.len (t 19)), m 21 (.bin .gtr .num (t 20) (.c (i 50))), m 22 (.mov (t 21)), g 23 22 false (.field 20 (t 3)), g 24 22 false (.load none (t 23)), g 25 22 false (.len (t 24)), g 26 22 false (.bin .gtr .num (t 25) (.c (i 50))), m 27 (.pick (t 22) (.c (.bool true)) (t 26))]) <|
  .cond (t 27) (.seq (.region [m 28 (.mov (t 5)), m 4 (.mov (t 28))]) <|
  .ret) (.skip)) <|
  .seq (.region [m 29 (.field 0 (t 2)), m 30 (.load none (t 29)), m 31 (.field 19 (t 3)), e (.store 1 (t 31) (t 30))]) <|
  .seq (.region [m 32 (.field 0 (t 3)), m 33 (.load none (t 32)), m 34 (.field 19 (t 2)), e (.store 1 (t 34) (t 33))]) <|
  .seq (.region [m 36 (.load (some 21) (t 2)), m 37 (.call false 9 [(t 36)]), m 35 (.mov (t 37)), m 38 (.extract 0 (t 35)), m 39 (.extract 1 (t 35)), m 6 (.mov (t 38)), m 7 (.mov (t 39))]) <|
  .seq (.region [m 41 (.load (some 21) (t 3)), m 42 (.call false 9 [(t 41)]), m 40 (.mov (t 42)), m 43 (.extract 0 (t 40)), m 44 (.extract 1 (t 40)), m 8 (.mov (t 43)), m 9 (.mov (t 44))]) <|
  .seq (.seq (.region [m 45 (.mov (t 5)), m 46 (.un .not (t 45)), m 47 (.mov (t 46)), g 48 47 false (.mov (t 7)), g 49 47 false (.bin .neq .num (t 48) (.c (i 0))), m 50 (.pick (t 47) (.c (.bool true)) (t 49)), m 51 (.mov (t 50)), g 52 51 false (.mov (t 9)), g 53 51 false (.bin .neq .num (t 52) (.c (i 0))), m 54 (.pick (t 51) (.c (.bool true)) (t 53)), m 55 (.mov (t 54)), g 56 55 false (.mov (t 6)), g 57 55 false (.bin .eql .ptr (t 56) (.c .nilp)), m 58 (.pick (t 55) (.c (.bool true)) (t 57)), m 59 (.mov (t 58)), g 60 59 false (.mov (t 8)), g 61 59 false (.bin .eql .ptr (t 60) (.c .nilp)), m 62 (.pick (t 59) (.c (.bool true)) (t 61)), m 63 (.mov (t 62)), g 64 63 false (.field 1 (t 2)), g 65 63 false (.load (some 17) (t 64)), g 66 63 false (.field 1 (t 3)), g 67 63 false (.load (some 17) (t 66)), g 68 63 false (.eqAgg [(.i .i64), (.i .u8), (.i .u8), (.i .u8), (.i .u8), (.i .u8), (.i .u8), (.i .u8), (.i .u8), (.i .u8), (.i .u8), (.i .u8), (.i .u8), (.i .u8), (.i .u8), (.i .u8), (.i .u8)] false (t 65) (t 67)), m 69 (.pick (t 63) (.c (.bool true)) (t 68))]) <|
  .cond (t 69) (.seq (.region [m 70 (.mov (t 5)), m 71 (.mov (t 70)), g 72 71 true (.mov (t 7)), g 73 71 true (.bin .neq .num (t 72) (.c (i 0))), g 74 71 true (.mov (t 6)), g 75 71 true (.bin .eql .ptr (t 74) (.c .nilp)), g 76 71 true (.bin .eql .bool (t 73) (t 75)), m 77 (.pick (t 71) (t 76) (.c (.bool false))), m 78 (.mov (t 77)), g 79 78 true (.mov (t 9)), g 80 78 true (.bin .neq .num (t 79) (.c (i 0))), g 81 78 true (.mov (t 8)), g 82 78 true (.bin .eql .ptr (t 81) (.c .nilp)), g 83 78 true (.bin .eql .bool (t 80) (t 82)), m 84 (.pick (t 78) (t 83) (.c (.bool false))), m 4 (.mov (t 84))]) <|
  .ret) (.skip)) <|
  .seq (.region [m 85 (.mov (t 6)), m 86 (.build [(i 0), (i 0), (i 0), (i 0), (i 0), (b 0), (b 0), (b 0), (b 0), (b 0), (b 0), (b 0), (b 0), (b 0), (b 0), (b 0), (b 0), (b 0), (b 0), (b 0), (b 0), .nils, (.bool false), (i 0), .nils, (i 0), (i 0), (i 0), (b 0), (b 0), (b 0), (b 0), (b 0), (b 0), (b 0), (b 0), (b 0), (b 0), (b 0), (b 0), (b 0), (b 0), (b 0), (b 0), .nils, .nils, .nils, .nils, .nils, (i 0), (i 0), .nils, (i 0), (i 0), (i 0), (i 0), (i 0), .nils] [(0, 1, (.c (i 1)))]), m 87 (.call false 10 [(t 85), (t 86)])]) <|
  .seq (.region [m 88 (.mov (t 8)), m 89 (.build [(i 0), (i 0), (i 0), (i 0), (i 0), (b 0), (b 0), (b 0), (b 0), (b 0), (b 0), (b 0), (b 0), (b 0), (b 0), (b 0), (b 0), (b 0), (b 0), (b 0), (b 0), .nils, (.bool false), (i 0), .nils, (i 0), (i 0), (i 0), (b 0), (b 0), (b 0), (b 0), (b 0), (b 0), (b 0), (b 0), (b 0), (b 0), (b 0), (b 0), (b 0), (b 0), (b 0), (b 0), .nils, .nils, .nils, .nils, .nils, (i 0), (i 0), .nils, (i 0), (i 0), (i 0), (i 0), (i 0), .nils] [(0, 1, (.c (i 1)))]), m 90 (.call false 10 [(t 88), (t 89)])]) <|
  .seq (.region [m 91 (.mov (t 6)), m 92 (.build [(i 0), (i 0), (i 0), (i 0), (i 0), (b 0), (b 0), (b 0), (b 0), (b 0), (b 0), (b 0), (b 0), (b 0), (b 0), (b 0), (b 0), (b 0), (b 0), (b 0), (b 0), .nils, (.bool false), (i 0), .nils, (i 0), (i 0), (i 0), (b 0), (b 0), (b 0), (b 0), (b 0), (b 0), (b 0), (b 0), (b 0), (b 0), (b 0), (b 0), (b 0), (b 0), (b 0), (b 0), .nils, .nils, .nils, .nils, .nils, (i 0), (i 0), .nils, (i 0), (i 0), (i 0), (i 0), (i 0), .nils] [(0, 1, (.c (i 3)))]), m 93 (.call false 10 [(t 91), (t 92)]), m 10 (.alloc 2 [.nils, (.bool false), (.bool false), (.bool false), (.bool false)]), e (.store 5 (t 10) (t 93))]) <|
  .seq (.region [m 94 (.mov (t 8)), m 95 (.build [(i 0), (i 0), (i 0), (i 0), (i 0), (b 0), (b 0), (b 0), (b 0), (b 0), (b 0), (b 0), (b 0), (b 0), (b 0), (b 0), (b 0), (b 0), (b 0), (b 0), (b 0), .nils, (.bool false), (i 0), .nils, (i 0), (i 0), (i 0), (b 0), (b 0), (b 0), (b 0), (b 0), (b 0), (b 0), (b 0), (b 0), (b 0), (b 0), (b 0), (b 0), (b 0), (b 0), (b 0), .nils, .nils, .nils, .nils, .nils, (i 0), (i 0), .nils, (i 0), (i 0), (i 0), (i 0), (i 0), .nils] [(0, 1, (.c (i 3)))]), m 96 (.call false 10 [(t 94), (t 95)]), m 11 (.alloc 3 [.nils, (.bool false), (.bool false), (.bool false), (.bool false)]), e (.store 5 (t 11) (t 96))]) <|
  .seq (.region [m 97 (.mov (t 6)), m 98 (.mov (t 8)), m 99 (.field 0 (t 11)), m 100 (.load none (t 99)), m 101 (.field 0 (t 10)), m 102 (.load none (t 101)), m 103 (.call false 13 [(t 97), (t 98), (t 100), (t 102)])]) <|
  .seq (.region [m 104 (.mov (t 6)), m 105 (.call false 14 [(t 104)]), m 12 (.mov (t 105))]) <|
  .seq (.region [m 106 (.mov (t 8)), m 107 (.call false 14 [(t 106)]), m 13 (.mov (t 107))]) <|
  .seq (.seq (.region [m 14 (.mov (.c (i 0)))]) <|
  .block 0 <| .loop <| .seq (.seq (.region [m 108 (.mov (t 14)), m 109 (.mov (t 12)), m 110 (.len (t 109)), m 111 (.bin .lss .num (t 108) (t 110))]) <|
  .cond (t 111) (.skip) (.exit 0)) <|
  .seq (.block 1 <| .seq (.region [m 15 (.mov (.c (i 0)))]) <|
  .seq (.seq (.region [m 16 (.mov (.c (i 0)))]) <|
  .block 2 <| .loop <| .seq (.seq (.region [m 114 (.mov (t 16)), m 115 (.mov (t 13)), m 116 (.len (t 115)), m 117 (.bin .lss .num (t 114) (t 116))]) <|
  .cond (t 117) (.skip) (.exit 2)) <|
  .seq (.block 3 <| .seq (.dreg [(m 120 (.mov (t 13)), []), (m 121 (.mov (t 16)), []), (m 122 (.index 2 (t 120) (t 121)), [0, 1]), (m 123 (.load (some 2) (t 122)), [2]), (m 124 (.mov (t 12)), []), (m 125 (.mov (t 14)), []), (m 126 (.index 2 (t 124) (t 125)), [4, 5]), (m 127 (.load (some 2) (t 126)), [6]), (m 128 (.eqAgg [(.i .i64), (.i .i64)] false (t 123) (t 127)), [3, 7])] [(2, 0), (2, 1), (1, 2), (1, 3), (2, 4), (2, 5), (1, 6), (1, 7), (2, 8)] [0, 0, 3, 7, 0, 0, 48, 112, 255]) <|
  .cond (t 128) (.region [m 129 (.mov (t 15)), m 130 (.bin .add .num (t 129) (.c (i 1))), m 15 (.mov (t 130))]) (.skip)) <|
  .region [m 118 (.mov (t 16)), m 119 (.bin .add .num (t 118) (.c (i 1))), m 16 (.mov (t 119))]) <|
  .seq (.region [m 131 (.mov (t 15)), m 132 (.bin .neq .num (t 131) (.c (i 1)))]) <|
  .cond (t 132) (.seq (.region [m 4 (.mov (.c (.bool false)))]) <|
  .ret) (.skip)) <|
  .region [m 112 (.mov (t 14)), m 113 (.bin .add .num (t 112) (.c (i 1))), m 14 (.mov (t 113))]) <|
  .seq (.dreg [(m 133 (.mov (t 6)), []), (m 134 (.call false 12 [(t 133)]), [0]), (m 135 (.bin .eql .num (t 134) (.c (i 4))), [1]), (m 136 (.mov (t 135)), [2, 1]), (g 137 136 true (.mov (t 8)), [3]), (g 138 136 true (.call false 12 [(t 137)]), [4, 3, 3]), (g 139 136 true (.bin .eql .num (t 138) (.c (i 4))), [5, 3]), (m 140 (.pick (t 136) (t 139) (.c (.bool false))), [3, 6]), (m 141 (.mov (t 140)), [7, 5]), (g 142 141 true (.mov (t 6)), [8]), (g 143 141 true (.call false 15 [(t 142)]), [9, 8, 8]), (g 144 141 true (.mov (t 8)), [8]), (g 145 141 true (.call false 15 [(t 144)]), [11, 10, 8]), (g 146 141 true (.bin .eql .num (t 143) (t 145)), [10, 12, 8]), (m 147 (.pick (t 141) (t 146) (.c (.bool false))), [8, 13]), (m 148 (.mov (t 147)), [14, 12]), (g 149 148 true (.mov (t 12)), [15]), (g 150 148 true (.len (t 149)), [16, 15]), (g 151 148 true (.mov (t 13)), [15]), (g 152 148 true (.len (t 151)), [18, 15]), (g 153 148 true (.bin .eql .num (t 150) (t 152)), [17, 19, 15]), (m 154 (.pick (t 148) (t 153) (.c (.bool false))), [15, 20]), (m 155 (.mov (t 154)), [21, 15]), (g 156 155 true (.mov (t 6)), [22]), (g 157 155 true (.call false 16 [(t 156)]), [23, 22, 22]), (g 158 155 true (.field 1 (t 3)), [22]), (g 159 155 true (.load (some 17) (t 158)), [25, 22]), (g 160 155 true (.eqAgg [(.i .i64), (.i .u8), (.i .u8), (.i .u8), (.i .u8), (.i .u8), (.i .u8), (.i .u8), (.i .u8), (.i .u8), (.i .u8), (.i .u8), (.i .u8), (.i .u8), (.i .u8), (.i .u8), (.i .u8)] false (t 157) (t 159)), [24, 26, 22]), (m 161 (.pick (t 155) (t 160) (.c (.bool false))), [22, 27]), (m 162 (.mov (t 161)), [28, 24]), (g 163 162 true (.mov (t 8)), [29]), (g 164 162 true (.call false 16 [(t 163)]), [30, 29, 29]), (g 165 162 true (.field 1 (t 2)), [29]), (g 166 162 true (.load (some 17) (t 165)), [32, 29]), (g 167 162 true (.eqAgg [(.i .i64), (.i .u8), (.i .u8), (.i .u8), (.i .u8), (.i .u8), (.i .u8), (.i .u8), (.i .u8), (.i .u8), (.i .u8), (.i .u8), (.i .u8), (.i .u8), (.i .u8), (.i .u8), (.i .u8)] false (t 164) (t 166)), [31, 33, 29]), (m 168 (.pick (t 162) (t 167) (.c (.bool false))), [29, 34]), (m 4 (.mov (t 168)), [35, 31, 0, 1, 2, 3, 4, 5, 6, 7, 8, 9, 10, 11, 12, 13, 14, 15, 16, 17, 18, 19, 20, 21, 22, 23, 24, 25, 26, 27, 28, 29, 30, 31, 32, 33, 34, 35])] [(2, 0), (0, 1), (2, 2), (2, 3), (2, 4), (0, 5), (2, 6), (2, 7), (2, 8), (2, 9), (2, 11), (0, 10), (0, 12), (2, 13), (2, 14), (2, 15), (2, 16), (1, 17), (2, 18), (1, 19), (2, 20), (2, 21), (2, 22), (2, 23), (2, 25), (2, 26), (0, 24), (2, 27), (2, 28), (2, 29), (2, 30), (2, 32), (2, 33), (0, 31), (2, 34), (2, 35), (2, 36)] [0, 1, 3, 7, 15, 31, 63, 127, 255, 511, 1023, 511, 4095, 8191, 16383, 32767, 65535, 131071, 65535, 327679, 1048575, 2097151, 4194303, 8388607, 16777215, 8388607, 41943039, 134217727, 268435455, 536870911, 1073741823, 2147483647, 1073741823, 5368709119, 17179869183, 34359738367, 68719476735]) <|
  .ret
def vf5 : VFun := ⟨169, 4, vb5, [.tmp 4], false⟩
theorem cf5 : cFun Go.Proofs.Tryz.prog rawF false Go.Proofs.Tryz.f5 = some vf5 := by kernel_rfl
theorem T5 {args : List PV} {σ : VHeap} {Post : KP} (h : belH σ.length σ → (∀ c, c ∈ args → bel σ.length c) → vrun Go.Proofs.Tryz.prog σ.length vb5 (argsEnv args) (σ ++ [dd, dd, dd, dd]) (vend vf5 (TrimP σ.length Post))) (hl : args.length ≤ 169 := by exact Nat.le_of_ble_eq_true rfl) : T Go.Proofs.Tryz.prog 5 args σ Post := T.walk Go.Proofs.Tryz.func5 cf5 hl rfl h

/-- vinery/vinerylaw14.SessionTurns -/
@[reducible] def vb6 : VC :=
  .seq (.region [m 2 (.box 0 (t 0)), m 4 (.mov (.c (.bool false)))]) <|
  .seq (.region [m 12 (.call false 7 []), m 5 (.mov (t 12))]) <|
  .seq (.region [m 14 (.load (some 21) (t 2)), m 15 (.call false 9 [(t 14)]), m 13 (.mov (t 15)), m 16 (.extract 0 (t 13)), m 17 (.extract 1 (t 13)), m 6 (.mov (t 16)), m 7 (.mov (t 17))]) <|
  .seq (.seq (.region [m 18 (.mov (t 5)), m 19 (.un .not (t 18)), m 20 (.mov (t 19)), g 21 20 false (.mov (t 7)), g 22 20 false (.bin .neq .num (t 21) (.c (i 0))), m 23 (.pick (t 20) (.c (.bool true)) (t 22)), m 24 (.mov (t 23)), g 25 24 false (.mov (t 6)), g 26 24 false (.bin .eql .ptr (t 25) (.c .nilp)), m 27 (.pick (t 24) (.c (.bool true)) (t 26))]) <|
  .cond (t 27) (.seq (.region [m 28 (.mov (t 5)), m 29 (.mov (t 28)), g 30 29 true (.mov (t 7)), g 31 29 true (.bin .neq .num (t 30) (.c (i 0))), g 32 29 true (.mov (t 6)), g 33 29 true (.bin .eql .ptr (t 32) (.c .nilp)), g 34 29 true (.bin .eql .bool (t 31) (t 33)), m 35 (.pick (t 29) (t 34) (.c (.bool false))), m 4 (.mov (t 35))]) <|
  .ret) (.skip)) <|
  .seq (.seq (.region [m 8 (.mov (.c (i 0)))]) <|
  .block 0 <| .loop <| .seq (.seq (.region [m 36 (.mov (t 8)), m 37 (.mov (t 1)), m 38 (.len (t 37)), m 39 (.bin .lss .num (t 36) (t 38)), m 40 (.mov (t 39)), g 41 40 true (.mov (t 8)), g 42 40 true (.bin .lss .num (t 41) (.c (i 150))), m 43 (.pick (t 40) (t 42) (.c (.bool false)))]) <|
  .cond (t 43) (.skip) (.exit 0)) <|
  .seq (.block 1 <| .seq (.region [m 46 (.mov (t 6)), m 47 (.call false 12 [(t 46)]), m 9 (.mov (t 47))]) <|
  .seq (.region [m 48 (.mov (t 6)), m 49 (.mov (t 1)), m 50 (.mov (t 8)), m 51 (.index 58 (t 49) (t 50)), m 52 (.load (some 58) (t 51)), m 53 (.call false 10 [(t 48), (t 52)]), m 10 (.alloc 1 [.nils, (.bool false), (.bool false), (.bool false), (.bool false)]), e (.store 5 (t 10) (t 53))]) <|
  .seq (.region [m 54 (.mov (t 6)), m 55 (.call false 12 [(t 54)]), m 11 (.mov (t 55))]) <|
  .seq (.seq (.region [m 56 (.field 3 (t 10)), m 57 (.load none (t 56)), m 58 (.mov (t 9)), m 59 (.bin .neq .num (t 58) (.c (i 4))), m 60 (.mov (t 59)), g 61 60 true (.mov (t 11)), g 62 60 true (.bin .eql .num (t 61) (.c (i 4))), m 63 (.pick (t 60) (t 62) (.c (.bool false))), m 64 (.bin .neq .bool (t 57) (t 63)), m 65 (.mov (t 64)), g 66 65 false (.field 4 (t 10)), g 67 65 false (.load none (t 66)), g 68 65 false (.mov (t 9)), g 69 65 false (.bin .eql .num (t 68) (.c (i 4))), g 70 65 false (.mov (t 69)), g 71 70 true (.mov (t 11)), g 72 70 true (.bin .neq .num (t 71) (.c (i 4))), g 73 65 false (.pick (t 70) (t 72) (.c (.bool false))), g 74 65 false (.bin .neq .bool (t 67) (t 73)), m 75 (.pick (t 65) (.c (.bool true)) (t 74)), m 76 (.mov (t 75)), g 77 76 false (.field 2 (t 10)), g 78 76 false (.load none (t 77)), g 79 76 false (.mov (t 78)), g 80 79 true (.mov (t 9)), g 81 79 true (.bin .lss .num (t 80) (.c (i 2))), g 82 79 true (.mov (t 81)), g 83 82 false (.mov (t 11)), g 84 82 false (.bin .neq .num (t 83) (.c (i 0))), g 85 79 true (.pick (t 82) (.c (.bool true)) (t 84)), g 86 76 false (.pick (t 79) (t 85) (.c (.bool false))), m 87 (.pick (t 76) (.c (.bool true)) (t 86)), m 88 (.mov (t 87)), g 89 88 false (.field 1 (t 10)), g 90 88 false (.load none (t 89)), g 91 88 false (.mov (t 90)), g 92 91 true (.mov (t 11)), g 93 91 true (.bin .neq .num (t 92) (.c (i 1))), g 94 88 false (.pick (t 91) (t 93) (.c (.bool false))), m 95 (.pick (t 88) (.c (.bool true)) (t 94)), m 96 (.mov (t 95)), g 97 96 false (.mov (t 11)), g 98 96 false (.bin .lss .num (t 97) (.c (i 0))), m 99 (.pick (t 96) (.c (.bool true)) (t 98)), m 100 (.mov (t 99)), g 101 100 false (.mov (t 11)), g 102 100 false (.bin .gtr .num (t 101) (.c (i 4))), m 103 (.pick (t 100) (.c (.bool true)) (t 102))]) <|
  .cond (t 103) (.seq (.region [m 4 (.mov (.c (.bool false)))]) <|
  .ret) (.skip)) <|
  .seq (.region [m 104 (.mov (t 11)), m 105 (.bin .lss .num (t 104) (.c (i 3))), m 106 (.mov (t 105)), g 107 106 true (.mov (t 6)), g 108 106 true (.call false 15 [(t 107)]), g 109 106 true (.bin .neq .num (t 108) (.c (i 0))), g 110 106 true (.mov (t 109)), g 111 110 false (.mov (t 6)), g 112 110 false (.call false 14 [(t 111)]), g 113 110 false (.len (t 112)), g 114 110 false (.bin .neq .num (t 113) (.c (i 0))), g 115 106 true (.pick (t 110) (.c (.bool true)) (t 114)), g 116 106 true (.mov (t 115)), g 117 116 false (.mov (t 6)), g 118 116 false (.call false 16 [(t 117)]), g 119 116 false (.fieldVal 0 none (t 118)), g 120 116 false (.bin .neq .num (t 119) (.c (i 0))), g 121 106 true (.pick (t 116) (.c (.bool true)) (t 120)), m 122 (.pick (t 106) (t 121) (.c (.bool false)))]) <|
  .cond (t 122) (.seq (.region [m 4 (.mov (.c (.bool false)))]) <|
  .ret) (.skip)) <|
  .region [m 44 (.mov (t 8)), m 45 (.bin .add .num (t 44) (.c (i 1))), m 8 (.mov (t 45))]) <|
  .seq (.region [m 4 (.mov (.c (.bool true)))]) <|
  .ret
def vf6 : VFun := ⟨123, 2, vb6, [.tmp 4], false⟩
theorem cf6 : cFun Go.Proofs.Tryz.prog rawF false Go.Proofs.Tryz.f6 = some vf6 := by kernel_rfl
theorem T6 {args : List PV} {σ : VHeap} {Post : KP} (h : belH σ.length σ → (∀ c, c ∈ args → bel σ.length c) → vrun Go.Proofs.Tryz.prog σ.length vb6 (argsEnv args) (σ ++ [dd, dd]) (vend vf6 (TrimP σ.length Post))) (hl : args.length ≤ 123 := by exact Nat.le_of_ble_eq_true rfl) : T Go.Proofs.Tryz.prog 6 args σ Post := T.walk Go.Proofs.Tryz.func6 cf6 hl rfl h

/-- vinery/vinerylaw14.small -/
@[reducible] def vb7 : VC :=
  .seq (.region [m 0 (.mov (.c (.bool false)))]) <|
  .seq (.region [m 8 (.call false 8 [(.c (b 1)), (.c (i 90))]), m 9 (.call false 9 [(t 8)]), m 7 (.mov (t 9)), m 10 (.extract 0 (t 7)), m 11 (.extract 1 (t 7)), m 1 (.mov (t 10)), m 2 (.mov (t 11))]) <|
  .seq (.seq (.region [m 12 (.mov (t 1)), m 13 (.bin .eql .ptr (t 12) (.c .nilp)), m 14 (.mov (t 13)), g 15 14 false (.mov (t 2)), g 16 14 false (.bin .neq .num (t 15) (.c (i 0))), m 17 (.pick (t 14) (.c (.bool true)) (t 16))]) <|
  .cond (t 17) (.seq (.region [m 0 (.mov (.c (.bool false)))]) <|
  .ret) (.skip)) <|
  .seq (.region [m 18 (.mov (t 1)), m 19 (.build [(i 0), (i 0), (i 0), (i 0), (i 0), (b 0), (b 0), (b 0), (b 0), (b 0), (b 0), (b 0), (b 0), (b 0), (b 0), (b 0), (b 0), (b 0), (b 0), (b 0), (b 0), .nils, (.bool false), (i 0), .nils, (i 0), (i 0), (i 0), (b 0), (b 0), (b 0), (b 0), (b 0), (b 0), (b 0), (b 0), (b 0), (b 0), (b 0), (b 0), (b 0), (b 0), (b 0), (b 0), .nils, .nils, .nils, .nils, .nils, (i 0), (i 0), .nils, (i 0), (i 0), (i 0), (i 0), (i 0), .nils] [(0, 1, (.c (i 1)))]), m 20 (.call false 10 [(t 18), (t 19)]), m 3 (.alloc 0 [.nils, (.bool false), (.bool false), (.bool false), (.bool false)]), e (.store 5 (t 3) (t 20))]) <|
  .seq (.region [m 21 (.mov (t 1)), m 22 (.build [(i 0), (i 0), (i 0), (i 0), (i 0), (b 0), (b 0), (b 0), (b 0), (b 0), (b 0), (b 0), (b 0), (b 0), (b 0), (b 0), (b 0), (b 0), (b 0), (b 0), (b 0), .nils, (.bool false), (i 0), .nils, (i 0), (i 0), (i 0), (b 0), (b 0), (b 0), (b 0), (b 0), (b 0), (b 0), (b 0), (b 0), (b 0), (b 0), (b 0), (b 0), (b 0), (b 0), (b 0), .nils, .nils, .nils, .nils, .nils, (i 0), (i 0), .nils, (i 0), (i 0), (i 0), (i 0), (i 0), .nils] [(0, 1, (.c (i 3)))]), m 23 (.call false 10 [(t 21), (t 22)]), m 4 (.alloc 1 [.nils, (.bool false), (.bool false), (.bool false), (.bool false)]), e (.store 5 (t 4) (t 23))]) <|
  .seq (.region [m 24 (.mov (t 1)), m 25 (.call false 11 [(.c (b 10)), (.c (b 0)), (.c (b 0)), (.c (b 2))]), m 26 (.build [(i 0), (i 0), (i 0), (b 0), (b 0), (b 0), (b 0), (b 0), (b 0), (b 0), (b 0), (b 0), (b 0), (b 0), (b 0), (b 0), (b 0), (b 0), (b 0), .nils, (.bool false)] [(0, 1, (.c (i 65000))), (1, 1, (.c (i 30))), (2, 17, (t 25))]), m 27 (.build [(i 0), (i 0), (i 0), (i 0), (b 0), (b 0), (b 0), (b 0), (b 0), (b 0), (b 0), (b 0), (b 0), (b 0), (b 0), (b 0), (b 0), (b 0), (b 0), (b 0), .nils, (.bool false), (i 0), .nils, (i 0), (i 0), (i 0), (b 0), (b 0), (b 0), (b 0), (b 0), (b 0), (b 0), (b 0), (b 0), (b 0), (b 0), (b 0), (b 0), (b 0), (b 0), (b 0), .nils, .nils, .nils, .nils, .nils, (i 0), (i 0), .nils, (i 0), (i 0)] [(0, 1, (.c (i 1))), (1, 21, (t 26))]), m 28 (.build [(i 0), (i 0), (i 0), (i 0), (b 0), (b 0), (b 0), (b 0), (b 0), (b 0), (b 0), (b 0), (b 0), (b 0), (b 0), (b 0), (b 0), (b 0), (b 0), (b 0), .nils, (.bool false), (i 0), .nils, (i 0), (i 0), (i 0), (b 0), (b 0), (b 0), (b 0), (b 0), (b 0), (b 0), (b 0), (b 0), (b 0), (b 0), (b 0), (b 0), (b 0), (b 0), (b 0), .nils, .nils, .nils, .nils, .nils, (i 0), (i 0), .nils, (i 0), (i 0), (i 0)] [(0, 53, (t 27))]), m 29 (.build [(i 0), (i 0), (i 0), (i 0), (i 0), (b 0), (b 0), (b 0), (b 0), (b 0), (b 0), (b 0), (b 0), (b 0), (b 0), (b 0), (b 0), (b 0), (b 0), (b 0), (b 0), .nils, (.bool false), (i 0), .nils, (i 0), (i 0), (i 0), (b 0), (b 0), (b 0), (b 0), (b 0), (b 0), (b 0), (b 0), (b 0), (b 0), (b 0), (b 0), (b 0), (b 0), (b 0), (b 0), .nils, .nils, .nils, .nils, .nils, (i 0), (i 0), .nils, (i 0), (i 0), (i 0), (i 0), (i 0), .nils] [(0, 1, (.c (i 5))), (1, 54, (t 28))]), m 30 (.call false 10 [(t 24), (t 29)]), m 5 (.alloc 2 [.nils, (.bool false), (.bool false), (.bool false), (.bool false)]), e (.store 5 (t 5) (t 30))]) <|
  .seq (.region [m 31 (.mov (t 1)), m 32 (.build [(i 0), (i 0), (i 0), (i 0), (b 0), (b 0), (b 0), (b 0), (b 0), (b 0), (b 0), (b 0), (b 0), (b 0), (b 0), (b 0), (b 0), (b 0), (b 0), (b 0), .nils, (.bool false), (i 0), .nils, (i 0), (i 0), (i 0), (b 0), (b 0), (b 0), (b 0), (b 0), (b 0), (b 0), (b 0), (b 0), (b 0), (b 0), (b 0), (b 0), (b 0), (b 0), (b 0), .nils, .nils, .nils, .nils, .nils, (i 0), (i 0), .nils, (i 0), (i 0)] [(0, 1, (.c (i 4)))]), m 33 (.build [(i 0), (i 0), (i 0), (i 0), (b 0), (b 0), (b 0), (b 0), (b 0), (b 0), (b 0), (b 0), (b 0), (b 0), (b 0), (b 0), (b 0), (b 0), (b 0), (b 0), .nils, (.bool false), (i 0), .nils, (i 0), (i 0), (i 0), (b 0), (b 0), (b 0), (b 0), (b 0), (b 0), (b 0), (b 0), (b 0), (b 0), (b 0), (b 0), (b 0), (b 0), (b 0), (b 0), .nils, .nils, .nils, .nils, .nils, (i 0), (i 0), .nils, (i 0), (i 0), (i 0)] [(0, 53, (t 32))]), m 34 (.build [(i 0), (i 0), (i 0), (i 0), (i 0), (b 0), (b 0), (b 0), (b 0), (b 0), (b 0), (b 0), (b 0), (b 0), (b 0), (b 0), (b 0), (b 0), (b 0), (b 0), (b 0), .nils, (.bool false), (i 0), .nils, (i 0), (i 0), (i 0), (b 0), (b 0), (b 0), (b 0), (b 0), (b 0), (b 0), (b 0), (b 0), (b 0), (b 0), (b 0), (b 0), (b 0), (b 0), (b 0), .nils, .nils, .nils, .nils, .nils, (i 0), (i 0), .nils, (i 0), (i 0), (i 0), (i 0), (i 0), .nils] [(0, 1, (.c (i 5))), (1, 54, (t 33))]), m 35 (.call false 10 [(t 31), (t 34)]), m 6 (.alloc 3 [.nils, (.bool false), (.bool false), (.bool false), (.bool false)]), e (.store 5 (t 6) (t 35))]) <|
  .seq (.region [m 36 (.field 1 (t 3)), m 37 (.load none (t 36)), m 38 (.mov (t 37)), g 39 38 true (.field 0 (t 4)), g 40 38 true (.load none (t 39)), g 41 38 true (.len (t 40)), g 42 38 true (.bin .eql .num (t 41) (.c (i 1))), m 43 (.pick (t 38) (t 42) (.c (.bool false))), m 44 (.mov (t 43)), g 45 44 true (.field 0 (t 4)), g 46 44 true (.load none (t 45)), g 47 44 true (.index 53 (t 46) (.c (i 0))), g 48 44 true (.field 0 (t 47)), g 49 44 true (.load none (t 48)), g 50 44 true (.bin .eql .num (t 49) (.c (i 1))), m 51 (.pick (t 44) (t 50) (.c (.bool false))), m 52 (.mov (t 51)), g 53 52 true (.field 0 (t 5)), g 54 52 true (.load none (t 53)), g 55 52 true (.len (t 54)), g 56 52 true (.bin .eql .num (t 55) (.c (i 1))), m 57 (.pick (t 52) (t 56) (.c (.bool false))), m 58 (.mov (t 57)), g 59 58 true (.field 0 (t 5)), g 60 58 true (.load none (t 59)), g 61 58 true (.index 53 (t 60) (.c (i 0))), g 62 58 true (.field 0 (t 61)), g 63 58 true (.load none (t 62)), g 64 58 true (.bin .eql .num (t 63) (.c (i 4))), m 65 (.pick (t 58) (t 64) (.c (.bool false))), m 66 (.mov (t 65)), g 67 66 true (.field 3 (t 6)), g 68 66 true (.load none (t 67)), m 69 (.pick (t 66) (t 68) (.c (.bool false))), m 70 (.mov (t 69)), g 71 70 true (.mov (t 1)), g 72 70 true (.call false 12 [(t 71)]), g 73 70 true (.bin .eql .num (t 72) (.c (i 4))), m 74 (.pick (t 70) (t 73) (.c (.bool false))), m 75 (.mov (t 74)), g 76 75 true (.mov (t 1)), g 77 75 true (.call false 15 [(t 76)]), g 78 75 true (.bin .eql .num (t 77) (.c (i 30))), m 79 (.pick (t 75) (t 78) (.c (.bool false))), m 0 (.mov (t 79))]) <|
  .ret
def vf7 : VFun := ⟨80, 4, vb7, [.tmp 0], false⟩
theorem cf7 : cFun Go.Proofs.Tryz.prog rawF false Go.Proofs.Tryz.f7 = some vf7 := by kernel_rfl
theorem T7 {args : List PV} {σ : VHeap} {Post : KP} (h : belH σ.length σ → (∀ c, c ∈ args → bel σ.length c) → vrun Go.Proofs.Tryz.prog σ.length vb7 (argsEnv args) (σ ++ [dd, dd, dd, dd]) (vend vf7 (TrimP σ.length Post))) (hl : args.length ≤ 80 := by exact Nat.le_of_ble_eq_true rfl) : T Go.Proofs.Tryz.prog 7 args σ Post := T.walk Go.Proofs.Tryz.func7 cf7 hl rfl h

/-- vinery/vinerylaw14.peer -/
@[reducible] def vb8 : VC :=
  .seq (.region [m 4 (.alloc 0 [(i 0), (i 0), (b 0), (b 0), (b 0), (b 0), (b 0), (b 0), (b 0), (b 0), (b 0), (b 0), (b 0), (b 0), (b 0), (b 0), (b 0), (b 0), (i 0), (i 0), .nils])]) <|
  .seq (.region [m 5 (.mov (t 0)), m 6 (.call false 11 [(.c (b 10)), (.c (b 0)), (.c (b 0)), (t 5)]), m 7 (.mov (t 1)), m 8 (.build [(i 0), (i 0)] [(0, 1, (.c (i 4))), (1, 1, (.c (i 5)))]), m 9 (.buildSlice 1 2 1 [(i 0), (i 0)] [(0, (t 8))]), m 10 (.build [(i 0), (i 0), (b 0), (b 0), (b 0), (b 0), (b 0), (b 0), (b 0), (b 0), (b 0), (b 0), (b 0), (b 0), (b 0), (b 0), (b 0), (b 0), (i 0), (i 0), .nils] [(0, 1, (.c (i 65000))), (1, 17, (t 6)), (18, 1, (t 7)), (19, 1, (.c (i 65000))), (20, 1, (t 9))]), e (.store 21 (t 4) (t 10))]) <|
  .ret
def vf8 : VFun := ⟨11, 2, vb8, [.cell 4 (some 21)], false⟩
theorem cf8 : cFun Go.Proofs.Tryz.prog rawF false Go.Proofs.Tryz.f8 = some vf8 := by kernel_rfl
theorem T8 {args : List PV} {σ : VHeap} {Post : KP} (h : belH σ.length σ → (∀ c, c ∈ args → bel σ.length c) → vrun Go.Proofs.Tryz.prog σ.length vb8 (argsEnv args) (σ ++ [dd, dd]) (vend vf8 (TrimP σ.length Post))) (hl : args.length ≤ 11 := by exact Nat.le_of_ble_eq_true rfl) : T Go.Proofs.Tryz.prog 8 args σ Post := T.walk Go.Proofs.Tryz.func8 cf8 hl rfl h

/-- vinery/session.New -/
@[reducible] def vb9 : VC :=
  .seq (.region [m 1 (.box 0 (t 0)), m 2 (.mov (.c .nilp)), m 3 (.mov (.c (i 0)))]) <|
  .seq (.region [m 8 (.field 20 (t 1)), m 9 (.load none (t 8)), m 10 (.call false 17 [(t 9)]), m 11 (.field 20 (t 1)), e (.store 1 (t 11) (t 10))]) <|
  .seq (.region [m 12 (.field 0 (t 1)), m 13 (.load none (t 12)), m 14 (.field 18 (t 1)), m 15 (.load none (t 14)), m 16 (.field 1 (t 1)), m 17 (.load (some 17) (t 16)), m 18 (.field 20 (t 1)), m 19 (.load none (t 18)), m 20 (.build [(i 0), (i 0), (i 0), (b 0), (b 0), (b 0), (b 0), (b 0), (b 0), (b 0), (b 0), (b 0), (b 0), (b 0), (b 0), (b 0), (b 0), (b 0), (b 0), .nils, (.bool false)] [(0, 1, (t 13)), (1, 1, (t 15)), (2, 17, (t 17)), (19, 1, (t 19))]), m 4 (.alloc 1 [(i 0), (i 0), (i 0), (b 0), (b 0), (b 0), (b 0), (b 0), (b 0), (b 0), (b 0), (b 0), (b 0), (b 0), (b 0), (b 0), (b 0), (b 0), (b 0), .nils, (.bool false)]), e (.store 21 (t 4) (t 20))]) <|
  .seq (.region [m 21 (.load (some 21) (t 4)), m 5 (.alloc 2 [(i 0), (i 0), (i 0), (b 0), (b 0), (b 0), (b 0), (b 0), (b 0), (b 0), (b 0), (b 0), (b 0), (b 0), (b 0), (b 0), (b 0), (b 0), (b 0), .nils, (.bool false)]), e (.store 21 (t 5) (t 21))]) <|
  .seq (.region [m 22 (.field 19 (t 1)), m 23 (.load none (t 22)), m 24 (.field 0 (t 5)), e (.store 1 (t 24) (t 23))]) <|
  .seq (.seq (.region [m 25 (.load (some 21) (t 4)), m 26 (.load (some 21) (t 5)), m 27 (.buildSlice 3 21 2 [(i 0), (i 0), (i 0), (b 0), (b 0), (b 0), (b 0), (b 0), (b 0), (b 0), (b 0), (b 0), (b 0), (b 0), (b 0), (b 0), (b 0), (b 0), (b 0), .nils, (.bool false)] [(0, (t 25)), (1, (t 26))]), m 28 (.len (t 27)), m 29 (.mov (.c (i 0)))]) <|
  .block 0 <| .loop <| .seq (.region [m 30 (.bin .lss .num (t 29) (t 28))]) <|
  .seq (.cond (t 30) (.skip) (.exit 0)) <|
  .seq (.block 1 <| .seq (.region [m 31 (.index 21 (t 27) (t 29)), m 32 (.load (some 21) (t 31)), m 7 (.alloc 4 [(i 0), (i 0), (i 0), (b 0), (b 0), (b 0), (b 0), (b 0), (b 0), (b 0), (b 0), (b 0), (b 0), (b 0), (b 0), (b 0), (b 0), (b 0), (b 0), .nils, (.bool false)]), e (.store 21 (t 7) (t 32))]) <|
  .seq (.region [m 33 (.load (some 21) (t 7)), m 34 (.build [(i 0), (i 0), (i 0), (i 0), (b 0), (b 0), (b 0), (b 0), (b 0), (b 0), (b 0), (b 0), (b 0), (b 0), (b 0), (b 0), (b 0), (b 0), (b 0), (b 0), .nils, (.bool false), (i 0), .nils, (i 0), (i 0), (i 0), (b 0), (b 0), (b 0), (b 0), (b 0), (b 0), (b 0), (b 0), (b 0), (b 0), (b 0), (b 0), (b 0), (b 0), (b 0), (b 0), .nils, .nils, .nils, .nils, .nils, (i 0), (i 0), .nils, (i 0), (i 0)] [(0, 1, (.c (i 1))), (1, 21, (t 33))]), m 35 (.call false 18 [(t 34)]), m 36 (.un .not (t 35)), m 37 (.mov (t 36)), g 38 37 false (.field 2 (t 7)), g 39 37 false (.load (some 17) (t 38)), g 40 37 false (.call false 19 [(t 39)]), g 41 37 false (.un .not (t 40)), m 42 (.pick (t 37) (.c (.bool true)) (t 41))]) <|
  .cond (t 42) (.seq (.region [m 2 (.mov (.c .nilp)), m 3 (.mov (.c (i 1)))]) <|
  .ret) (.skip)) <|
  .region [m 43 (.bin .add .num (t 29) (.c (i 1))), m 29 (.mov (t 43))]) <|
  .seq (.dreg [(m 44 (.load (some 21) (t 1)), []), (m 45 (.call false 20 []), []), (m 46 (.build [(i 0), (i 0), (b 0), (b 0), (b 0), (b 0), (b 0), (b 0), (b 0), (b 0), (b 0), (b 0), (b 0), (b 0), (b 0), (b 0), (b 0), (b 0), (i 0), (i 0), .nils, (i 0), (.bool false), .nilp, (i 0), (b 0), (b 0), (b 0), (b 0), (b 0), (b 0), (b 0), (b 0), (b 0), (b 0), (b 0), (b 0), (b 0), (b 0), (b 0), (b 0), (i 0), .nils, .nils, (.bool false), (.bool false), (.bool false), (.bool false)] [(0, 21, (t 44)), (23, 1, (t 45))]), [0, 1]), (m 47 (.box 5 (t 46)), [2]), (m 2 (.mov (t 47)), [3, 1, 0, 1, 2, 3]), (m 3 (.mov (.c (i 0))), [4, 0, 1, 2, 3, 4])] [(2, 0), (0, 1), (2, 2), (0, 3), (2, 4), (2, 5)] [0, 0, 3, 7, 15, 31]) <|
  .ret
def vf9 : VFun := ⟨48, 6, vb9, [.tmp 2, .tmp 3], false⟩
theorem cf9 : cFun Go.Proofs.Tryz.prog rawF false Go.Proofs.Tryz.f9 = some vf9 := by kernel_rfl
theorem T9 {args : List PV} {σ : VHeap} {Post : KP} (h : vrun Go.Proofs.Tryz.prog σ.length vb9 (argsEnv args) (σ ++ [dd, dd, dd, dd, dd, dd]) (vend vf9 Post)) (hl : args.length ≤ 48 := by exact Nat.le_of_ble_eq_true rfl) : T Go.Proofs.Tryz.prog 9 args σ Post := T.walkR Go.Proofs.Tryz.func9 cf9 hl rfl h

/-- (*vinery/session.Session).Do -/
@[reducible] def vb10 : VC :=
  .seq (.region [m 2 (.box 0 (t 0)), m 3 (.box 1 (t 1)), m 4 (.alloc 2 [.nils, (.bool false), (.bool false), (.bool false), (.bool false)])]) <|
  .seq (.region [m 6 (.load none (t 2)), m 7 (.build [.nils, (.bool false), (.bool false), (.bool false), (.bool false)] []), m 8 (.nilCheck (t 6)), m 9 (.field 43 (t 8)), e (.store 5 (t 9) (t 7))]) <|
  .seq (.region [m 5 (.mov (.c (.fn 21 [])))]) <|
  .seq (.block 0 <| .seq (.region [m 11 (.field 0 (t 3)), m 12 (.load none (t 11)), m 13 (.bin .eql .num (t 12) (.c (i 1))), m 14 (.mov (t 13)), g 15 14 true (.load none (t 2)), g 16 14 true (.nilCheck (t 15)), g 17 14 true (.field 21 (t 16)), g 18 14 true (.load none (t 17)), g 19 14 true (.bin .eql .num (t 18) (.c (i 0))), m 20 (.pick (t 14) (t 19) (.c (.bool false))), m 10 (.mov (t 20))]) <|
  .cond (t 10) (.region [m 21 (.load none (t 2)), m 22 (.func 1000000022 [(t 21)]), m 5 (.mov (t 22))]) (.seq (.region [m 24 (.field 0 (t 3)), m 25 (.load none (t 24)), m 26 (.bin .eql .num (t 25) (.c (i 2))), m 23 (.mov (t 26))]) <|
  .cond (t 23) (.region [m 27 (.load none (t 2)), m 28 (.func 1000000023 [(t 27)]), m 5 (.mov (t 28))]) (.seq (.region [m 30 (.field 0 (t 3)), m 31 (.load none (t 30)), m 32 (.bin .eql .num (t 31) (.c (i 3))), m 33 (.mov (t 32)), g 34 33 true (.load none (t 2)), g 35 33 true (.nilCheck (t 34)), g 36 33 true (.field 21 (t 35)), g 37 33 true (.load none (t 36)), g 38 33 true (.bin .eql .num (t 37) (.c (i 1))), m 39 (.pick (t 33) (t 38) (.c (.bool false))), m 29 (.mov (t 39))]) <|
  .cond (t 29) (.region [m 40 (.load none (t 2)), m 41 (.func 1000000024 [(t 40)]), m 5 (.mov (t 41))]) (.seq (.region [m 43 (.field 0 (t 3)), m 44 (.load none (t 43)), m 45 (.bin .eql .num (t 44) (.c (i 4))), m 46 (.mov (t 45)), g 47 46 true (.load none (t 2)), g 48 46 true (.call false 25 [(t 47)]), m 49 (.pick (t 46) (t 48) (.c (.bool false))), m 42 (.mov (t 49))]) <|
  .cond (t 42) (.region [m 50 (.load none (t 2)), m 51 (.func 1000000026 [(t 50)]), m 5 (.mov (t 51))]) (.seq (.region [m 53 (.field 0 (t 3)), m 54 (.load none (t 53)), m 55 (.bin .eql .num (t 54) (.c (i 6))), m 56 (.mov (t 55)), g 57 56 true (.load none (t 2)), g 58 56 true (.call false 25 [(t 57)]), m 59 (.pick (t 56) (t 58) (.c (.bool false))), m 52 (.mov (t 59))]) <|
  .cond (t 52) (.region [m 60 (.func 27 [(t 2), (t 3)]), m 5 (.mov (t 60))]) (.seq (.region [m 62 (.field 0 (t 3)), m 63 (.load none (t 62)), m 64 (.bin .eql .num (t 63) (.c (i 5))), m 65 (.mov (t 64)), g 66 65 true (.load none (t 2)), g 67 65 true (.call false 25 [(t 66)]), m 68 (.pick (t 65) (t 67) (.c (.bool false))), m 61 (.mov (t 68))]) <|
  .cond (t 61) (.region [m 69 (.func 29 [(t 2), (t 3)]), m 5 (.mov (t 69))]) (.seq (.region [m 71 (.field 0 (t 3)), m 72 (.load none (t 71)), m 73 (.bin .eql .num (t 72) (.c (i 7))), m 70 (.mov (t 73))]) <|
  .cond (t 70) (.region [m 74 (.load none (t 2)), m 75 (.func 1000000031 [(t 74)]), m 5 (.mov (t 75))]) (.skip)))))))) <|
  .seq (.region [m 76 (.mov (t 5)), m 77 (.callV (t 76) [])]) <|
  .seq (.region [m 78 (.load none (t 2)), m 79 (.nilCheck (t 78)), m 80 (.field 43 (t 79)), m 81 (.load (some 5) (t 80)), e (.store 5 (t 4) (t 81))]) <|
  .ret
def vf10 : VFun := ⟨82, 3, vb10, [.cell 4 (some 5)], false⟩
theorem cf10 : cFun Go.Proofs.Tryz.prog rawF false Go.Proofs.Tryz.f10 = some vf10 := by kernel_rfl
theorem T10 {args : List PV} {σ : VHeap} {Post : KP} (h : vrun Go.Proofs.Tryz.prog σ.length vb10 (argsEnv args) (σ ++ [dd, dd, dd]) (vend vf10 Post)) (hl : args.length ≤ 82 := by exact Nat.le_of_ble_eq_true rfl) : T Go.Proofs.Tryz.prog 10 args σ Post := T.walkR Go.Proofs.Tryz.func10 cf10 hl rfl h

/-- vinery/vinerylaw07.V4 -/
@[reducible] def vb11 : VC :=
  .seq (.region [m 8 (.alloc 0 [(i 0), (b 0), (b 0), (b 0), (b 0), (b 0), (b 0), (b 0), (b 0), (b 0), (b 0), (b 0), (b 0), (b 0), (b 0), (b 0), (b 0)])]) <|
  .seq (.region [m 9 (.mov (t 0)), m 10 (.mov (t 1)), m 11 (.mov (t 2)), m 12 (.mov (t 3)), m 13 (.build [(b 0), (b 0), (b 0), (b 0), (b 0), (b 0), (b 0), (b 0), (b 0), (b 0), (b 0), (b 0), (b 0), (b 0), (b 0), (b 0)] [(0, 1, (t 9)), (1, 1, (t 10)), (2, 1, (t 11)), (3, 1, (t 12))]), m 14 (.build [(i 0), (b 0), (b 0), (b 0), (b 0), (b 0), (b 0), (b 0), (b 0), (b 0), (b 0), (b 0), (b 0), (b 0), (b 0), (b 0), (b 0)] [(0, 1, (.c (i 4))), (1, 16, (t 13))]), e (.store 17 (t 8) (t 14))]) <|
  .ret
def vf11 : VFun := ⟨15, 1, vb11, [.cell 8 (some 17)], false⟩
theorem cf11 : cFun Go.Proofs.Tryz.prog rawF false Go.Proofs.Tryz.f11 = some vf11 := by kernel_rfl
theorem T11 {args : List PV} {σ : VHeap} {Post : KP} (h : belH σ.length σ → (∀ c, c ∈ args → bel σ.length c) → vrun Go.Proofs.Tryz.prog σ.length vb11 (argsEnv args) (σ ++ [dd]) (vend vf11 (TrimP σ.length Post))) (hl : args.length ≤ 15 := by exact Nat.le_of_ble_eq_true rfl) : T Go.Proofs.Tryz.prog 11 args σ Post := T.walk Go.Proofs.Tryz.func11 cf11 hl rfl h

/-- (*vinery/session.Session).State -/
@[reducible] def vb12 : VC :=
  .seq (.region [m 2 (.mov (.c (i 0)))]) <|
  .seq (.region [m 3 (.mov (t 0)), m 4 (.nilCheck (t 3)), m 5 (.field 21 (t 4)), m 6 (.load none (t 5)), m 2 (.mov (t 6))]) <|
  .ret
def vf12 : VFun := ⟨7, 0, vb12, [.tmp 2], false⟩
theorem cf12 : cFun Go.Proofs.Tryz.prog rawF false Go.Proofs.Tryz.f12 = some vf12 := by kernel_rfl
theorem T12 {args : List PV} {σ : VHeap} {Post : KP} (h : belH σ.length σ → (∀ c, c ∈ args → bel σ.length c) → vrun Go.Proofs.Tryz.prog σ.length vb12 (argsEnv args) (σ ++ []) (vend vf12 (TrimP σ.length Post))) (hl : args.length ≤ 7 := by exact Nat.le_of_ble_eq_true rfl) : T Go.Proofs.Tryz.prog 12 args σ Post := T.walk Go.Proofs.Tryz.func12 cf12 hl rfl h

/-- vinery/vinerylaw14.pass -/
@[reducible] def vb13 : VC :=
  .seq (.region [m 8 (.mov (.c (i 0)))]) <|
  .block 0 <| .loop <| .seq (.seq (.region [m 11 (.mov (t 8)), m 12 (.bin .lss .num (t 11) (.c (i 20))), m 13 (.mov (t 12)), g 14 13 true (.mov (t 2)), g 15 13 true (.len (t 14)), g 16 13 true (.mov (t 3)), g 17 13 true (.len (t 16)), g 18 13 true (.bin .add .num (t 15) (t 17)), g 19 13 true (.bin .gtr .num (t 18) (.c (i 0))), m 20 (.pick (t 13) (t 19) (.c (.bool false)))]) <|
  .cond (t 20) (.skip) (.exit 0)) <|
  .seq (.block 1 <| .seq (.seq (.region [m 23 (.mov (t 2)), m 24 (.len (t 23)), m 25 (.bin .gtr .num (t 24) (.c (i 0)))]) <|
  .cond (t 25) (.seq (.region [m 26 (.mov (t 0)), m 27 (.mov (t 2)), m 28 (.index 53 (t 27) (.c (i 0))), m 29 (.load (some 53) (t 28)), m 30 (.build [(i 0), (i 0), (i 0), (i 0), (b 0), (b 0), (b 0), (b 0), (b 0), (b 0), (b 0), (b 0), (b 0), (b 0), (b 0), (b 0), (b 0), (b 0), (b 0), (b 0), .nils, (.bool false), (i 0), .nils, (i 0), (i 0), (i 0), (b 0), (b 0), (b 0), (b 0), (b 0), (b 0), (b 0), (b 0), (b 0), (b 0), (b 0), (b 0), (b 0), (b 0), (b 0), (b 0), .nils, .nils, .nils, .nils, .nils, (i 0), (i 0), .nils, (i 0), (i 0), (i 0)] [(0, 53, (t 29))]), m 31 (.build [(i 0), (i 0), (i 0), (i 0), (i 0), (b 0), (b 0), (b 0), (b 0), (b 0), (b 0), (b 0), (b 0), (b 0), (b 0), (b 0), (b 0), (b 0), (b 0), (b 0), (b 0), .nils, (.bool false), (i 0), .nils, (i 0), (i 0), (i 0), (b 0), (b 0), (b 0), (b 0), (b 0), (b 0), (b 0), (b 0), (b 0), (b 0), (b 0), (b 0), (b 0), (b 0), (b 0), (b 0), .nils, .nils, .nils, .nils, .nils, (i 0), (i 0), .nils, (i 0), (i 0), (i 0), (i 0), (i 0), .nils] [(0, 1, (.c (i 5))), (1, 54, (t 30))]), m 32 (.call false 10 [(t 26), (t 31)]), m 9 (.alloc 0 [.nils, (.bool false), (.bool false), (.bool false), (.bool false)]), e (.store 5 (t 9) (t 32))]) <|
  .seq (.region [m 33 (.mov (t 2)), m 34 (.slice 53 (t 33) (some (.c (i 1))) none), m 2 (.mov (t 34))]) <|
  .region [m 35 (.mov (t 3)), m 36 (.field 0 (t 9)), m 37 (.load none (t 36)), m 38 (.append 1 53 328 (t 35) (t 37)), m 3 (.mov (t 38))]) (.skip)) <|
  .seq (.region [m 39 (.mov (t 3)), m 40 (.len (t 39)), m 41 (.bin .gtr .num (t 40) (.c (i 0)))]) <|
  .cond (t 41) (.seq (.region [m 42 (.mov (t 1)), m 43 (.mov (t 3)), m 44 (.index 53 (t 43) (.c (i 0))), m 45 (.load (some 53) (t 44)), m 46 (.build [(i 0), (i 0), (i 0), (i 0), (b 0), (b 0), (b 0), (b 0), (b 0), (b 0), (b 0), (b 0), (b 0), (b 0), (b 0), (b 0), (b 0), (b 0), (b 0), (b 0), .nils, (.bool false), (i 0), .nils, (i 0), (i 0), (i 0), (b 0), (b 0), (b 0), (b 0), (b 0), (b 0), (b 0), (b 0), (b 0), (b 0), (b 0), (b 0), (b 0), (b 0), (b 0), (b 0), .nils, .nils, .nils, .nils, .nils, (i 0), (i 0), .nils, (i 0), (i 0), (i 0)] [(0, 53, (t 45))]), m 47 (.build [(i 0), (i 0), (i 0), (i 0), (i 0), (b 0), (b 0), (b 0), (b 0), (b 0), (b 0), (b 0), (b 0), (b 0), (b 0), (b 0), (b 0), (b 0), (b 0), (b 0), (b 0), .nils, (.bool false), (i 0), .nils, (i 0), (i 0), (i 0), (b 0), (b 0), (b 0), (b 0), (b 0), (b 0), (b 0), (b 0), (b 0), (b 0), (b 0), (b 0), (b 0), (b 0), (b 0), (b 0), .nils, .nils, .nils, .nils, .nils, (i 0), (i 0), .nils, (i 0), (i 0), (i 0), (i 0), (i 0), .nils] [(0, 1, (.c (i 5))), (1, 54, (t 46))]), m 48 (.call false 10 [(t 42), (t 47)]), m 10 (.alloc 2 [.nils, (.bool false), (.bool false), (.bool false), (.bool false)]), e (.store 5 (t 10) (t 48))]) <|
  .seq (.region [m 49 (.mov (t 3)), m 50 (.slice 53 (t 49) (some (.c (i 1))) none), m 3 (.mov (t 50))]) <|
  .region [m 51 (.mov (t 2)), m 52 (.field 0 (t 10)), m 53 (.load none (t 52)), m 54 (.append 3 53 328 (t 51) (t 53)), m 2 (.mov (t 54))]) (.skip)) <|
  .region [m 21 (.mov (t 8)), m 22 (.bin .add .num (t 21) (.c (i 1))), m 8 (.mov (t 22))]
def vf13 : VFun := ⟨55, 4, vb13, [], false⟩
theorem cf13 : cFun Go.Proofs.Tryz.prog rawF false Go.Proofs.Tryz.f13 = some vf13 := by kernel_rfl
theorem T13 {args : List PV} {σ : VHeap} {Post : KP} (h : vrun Go.Proofs.Tryz.prog σ.length vb13 (argsEnv args) (σ ++ [dd, dd, dd, dd]) (vend vf13 Post)) (hl : args.length ≤ 55 := by exact Nat.le_of_ble_eq_true rfl) : T Go.Proofs.Tryz.prog 13 args σ Post := T.walkR Go.Proofs.Tryz.func13 cf13 hl rfl h

/-- (*vinery/session.Session).Families -/
@[reducible] def vb14 : VC :=
  .seq (.region [m 2 (.newRow 0 2)]) <|
  .seq (.region [m 3 (.mov (t 0)), m 4 (.nilCheck (t 3)), m 5 (.field 42 (t 4)), m 6 (.load none (t 5)), m 7 (.call false 17 [(t 6)]), m 2 (.mov (t 7))]) <|
  .ret
def vf14 : VFun := ⟨8, 1, vb14, [.tmp 2], false⟩
theorem cf14 : cFun Go.Proofs.Tryz.prog rawF false Go.Proofs.Tryz.f14 = some vf14 := by kernel_rfl
theorem T14 {args : List PV} {σ : VHeap} {Post : KP} (h : belH σ.length σ → (∀ c, c ∈ args → bel σ.length c) → vrun Go.Proofs.Tryz.prog σ.length vb14 (argsEnv args) (σ ++ [dd]) (vend vf14 (TrimP σ.length Post))) (hl : args.length ≤ 8 := by exact Nat.le_of_ble_eq_true rfl) : T Go.Proofs.Tryz.prog 14 args σ Post := T.walk Go.Proofs.Tryz.func14 cf14 hl rfl h

/-- (*vinery/session.Session).Hold -/
@[reducible] def vb15 : VC :=
  .seq (.region [m 2 (.mov (.c (i 0)))]) <|
  .seq (.region [m 3 (.mov (t 0)), m 4 (.nilCheck (t 3)), m 5 (.field 41 (t 4)), m 6 (.load none (t 5)), m 2 (.mov (t 6))]) <|
  .ret
def vf15 : VFun := ⟨7, 0, vb15, [.tmp 2], false⟩
theorem cf15 : cFun Go.Proofs.Tryz.prog rawF false Go.Proofs.Tryz.f15 = some vf15 := by kernel_rfl
theorem T15 {args : List PV} {σ : VHeap} {Post : KP} (h : belH σ.length σ → (∀ c, c ∈ args → bel σ.length c) → vrun Go.Proofs.Tryz.prog σ.length vb15 (argsEnv args) (σ ++ []) (vend vf15 (TrimP σ.length Post))) (hl : args.length ≤ 7 := by exact Nat.le_of_ble_eq_true rfl) : T Go.Proofs.Tryz.prog 15 args σ Post := T.walk Go.Proofs.Tryz.func15 cf15 hl rfl h

/-- (*vinery/session.Session).Id -/
@[reducible] def vb16 : VC :=
  .seq (.region [m 2 (.alloc 0 [(i 0), (b 0), (b 0), (b 0), (b 0), (b 0), (b 0), (b 0), (b 0), (b 0), (b 0), (b 0), (b 0), (b 0), (b 0), (b 0), (b 0)])]) <|
  .seq (.region [m 3 (.mov (t 0)), m 4 (.nilCheck (t 3)), m 5 (.field 24 (t 4)), m 6 (.load (some 17) (t 5)), e (.store 17 (t 2) (t 6))]) <|
  .ret
def vf16 : VFun := ⟨7, 1, vb16, [.cell 2 (some 17)], false⟩
theorem cf16 : cFun Go.Proofs.Tryz.prog rawF false Go.Proofs.Tryz.f16 = some vf16 := by kernel_rfl
theorem T16 {args : List PV} {σ : VHeap} {Post : KP} (h : belH σ.length σ → (∀ c, c ∈ args → bel σ.length c) → vrun Go.Proofs.Tryz.prog σ.length vb16 (argsEnv args) (σ ++ [dd]) (vend vf16 (TrimP σ.length Post))) (hl : args.length ≤ 7 := by exact Nat.le_of_ble_eq_true rfl) : T Go.Proofs.Tryz.prog 16 args σ Post := T.walk Go.Proofs.Tryz.func16 cf16 hl rfl h

/-- slices.Clone[[]vinery/api.Family,vinery/api.Family] -/
@[reducible] def vb17 : VC :=
  .seq (.region [m 2 (.newRow 0 2)]) <|
  .seq (.seq (.region [m 3 (.mov (t 0)), m 4 (.bin .eql .slice (t 3) (.c .nils))]) <|
  .cond (t 4) (.seq (.region [m 2 (.newRow 0 2)]) <|
  .ret) (.skip)) <|
  .seq (.region [m 5 (.buildSlice 1 2 0 [(i 0), (i 0)] []), m 6 (.mov (t 0)), m 7 (.append 2 2 16 (t 5) (t 6)), m 2 (.mov (t 7))]) <|
  .ret
def vf17 : VFun := ⟨8, 3, vb17, [.tmp 2], false⟩
theorem cf17 : cFun Go.Proofs.Tryz.prog rawF false Go.Proofs.Tryz.f17 = some vf17 := by kernel_rfl
theorem T17 {args : List PV} {σ : VHeap} {Post : KP} (h : belH σ.length σ → (∀ c, c ∈ args → bel σ.length c) → vrun Go.Proofs.Tryz.prog σ.length vb17 (argsEnv args) (σ ++ [dd, dd, dd]) (vend vf17 (TrimP σ.length Post))) (hl : args.length ≤ 8 := by exact Nat.le_of_ble_eq_true rfl) : T Go.Proofs.Tryz.prog 17 args σ Post := T.walk Go.Proofs.Tryz.func17 cf17 hl rfl h

/-- vinery/message.Right -/
@[reducible] def vb18 : VC :=
  .seq (.region [m 1 (.box 0 (t 0)), m 2 (.mov (.c (.bool false)))]) <|
  .seq (.region [m 5 (.load (some 53) (t 1)), m 3 (.alloc 1 [(i 0), (i 0), (i 0), (i 0), (b 0), (b 0), (b 0), (b 0), (b 0), (b 0), (b 0), (b 0), (b 0), (b 0), (b 0), (b 0), (b 0), (b 0), (b 0), (b 0), .nils, (.bool false), (i 0), .nils, (i 0), (i 0), (i 0), (b 0), (b 0), (b 0), (b 0), (b 0), (b 0), (b 0), (b 0), (b 0), (b 0), (b 0), (b 0), (b 0), (b 0), (b 0), (b 0), .nils, .nils, .nils, .nils, .nils, (i 0), (i 0), .nils, (i 0), (i 0)]), e (.store 53 (t 3) (t 5))]) <|
  .seq (.region [m 4 (.mov (.c (.bool true)))]) <|
  .seq (.seq (.region [m 6 (.field 0 (t 1)), m 7 (.load none (t 6))]) <|
  .block 0 <| .seq (.region [m 9 (.bin .eql .num (t 7) (.c (i 1))), m 8 (.mov (t 9))]) <|
  .cond (t 8) (.region [m 10 (.build [(i 0), (i 0), (i 0), (b 0), (b 0), (b 0), (b 0), (b 0), (b 0), (b 0), (b 0), (b 0), (b 0), (b 0), (b 0), (b 0), (b 0), (b 0), (b 0), .nils, (.bool false)] []), m 11 (.field 1 (t 1)), m 12 (.load (some 21) (t 11)), m 13 (.call false 32 [(t 12)]), m 14 (.field 1 (t 3)), e (.store 21 (t 14) (t 10)), m 4 (.mov (t 13))]) (.seq (.region [m 16 (.bin .eql .num (t 7) (.c (i 2))), m 15 (.mov (t 16))]) <|
  .cond (t 15) (.region [m 17 (.build [(i 0), .nils, (i 0), (i 0), (i 0), (b 0), (b 0), (b 0), (b 0), (b 0), (b 0), (b 0), (b 0), (b 0), (b 0), (b 0), (b 0), (b 0), (b 0), (b 0), (b 0), .nils, .nils, .nils, .nils, .nils] []), m 18 (.field 22 (t 1)), m 19 (.load (some 26) (t 18)), m 20 (.call false 33 [(t 19)]), m 21 (.field 22 (t 3)), e (.store 26 (t 21) (t 17)), m 4 (.mov (t 20))]) (.seq (.region [m 23 (.bin .eql .num (t 7) (.c (i 3))), m 22 (.mov (t 23))]) <|
  .cond (t 22) (.region [m 24 (.build [(i 0), (i 0), .nils] []), m 25 (.field 48 (t 1)), m 26 (.load (some 3) (t 25)), m 27 (.call false 34 [(t 26)]), m 28 (.field 48 (t 3)), e (.store 3 (t 28) (t 24)), m 4 (.mov (t 27))]) (.seq (.region [m 30 (.bin .eql .num (t 7) (.c (i 4))), m 29 (.mov (t 30))]) <|
  .cond (t 29) (.skip) (.seq (.region [m 32 (.bin .eql .num (t 7) (.c (i 5))), m 31 (.mov (t 32))]) <|
  .cond (t 31) (.region [m 33 (.build [(i 0), (i 0)] []), m 34 (.field 51 (t 1)), m 35 (.load (some 2) (t 34)), m 36 (.call false 35 [(t 35)]), m 37 (.field 51 (t 3)), e (.store 2 (t 37) (t 33)), m 4 (.mov (t 36))]) (.seq (.region [m 2 (.mov (.c (.bool false)))]) <|
  .ret)))))) <|
  .seq (.region [m 38 (.mov (t 4)), m 39 (.mov (t 38)), g 40 39 true (.load (some 53) (t 3)), g 41 39 true (.field 0 (t 1)), g 42 39 true (.load none (t 41)), g 43 39 true (.build [(i 0), (i 0), (i 0), (i 0), (b 0), (b 0), (b 0), (b 0), (b 0), (b 0), (b 0), (b 0), (b 0), (b 0), (b 0), (b 0), (b 0), (b 0), (b 0), (b 0), .nils, (.bool false), (i 0), .nils, (i 0), (i 0), (i 0), (b 0), (b 0), (b 0), (b 0), (b 0), (b 0), (b 0), (b 0), (b 0), (b 0), (b 0), (b 0), (b 0), (b 0), (b 0), (b 0), .nils, .nils, .nils, .nils, .nils, (i 0), (i 0), .nils, (i 0), (i 0)] [(0, 1, (t 42))]), g 44 39 true (.call false 36 [(t 40), (t 43)]), m 45 (.pick (t 39) (t 44) (.c (.bool false))), m 2 (.mov (t 45))]) <|
  .ret
def vf18 : VFun := ⟨46, 2, vb18, [.tmp 2], false⟩
theorem cf18 : cFun Go.Proofs.Tryz.prog rawF false Go.Proofs.Tryz.f18 = some vf18 := by kernel_rfl
theorem T18 {args : List PV} {σ : VHeap} {Post : KP} (h : belH σ.length σ → (∀ c, c ∈ args → bel σ.length c) → vrun Go.Proofs.Tryz.prog σ.length vb18 (argsEnv args) (σ ++ [dd, dd]) (vend vf18 (TrimP σ.length Post))) (hl : args.length ≤ 46 := by exact Nat.le_of_ble_eq_true rfl) : T Go.Proofs.Tryz.prog 18 args σ Post := T.walk Go.Proofs.Tryz.func18 cf18 hl rfl h

/-- vinery/addr.Right -/
@[reducible] def vb19 : VC :=
  .seq (.region [m 1 (.box 0 (t 0)), m 2 (.mov (.c (.bool false)))]) <|
  .seq (.seq (.region [m 3 (.field 0 (t 1)), m 4 (.load none (t 3))]) <|
  .block 0 <| .seq (.seq (.region [m 6 (.bin .eql .num (t 4) (.c (i 0))), m 5 (.mov (t 6))]) <|
  .cond (t 5) (.skip) (.seq (.region [m 7 (.bin .eql .num (t 4) (.c (i 4))), m 5 (.mov (t 7))]) <|
  .cond (t 5) (.skip) (.region [m 8 (.bin .eql .num (t 4) (.c (i 16))), m 5 (.mov (t 8))]))) <|
  .cond (t 5) (.seq (.region [m 9 (.field 1 (t 1)), m 10 (.field 0 (t 1)), m 11 (.load none (t 10)), m 12 (.sliceArr 16 1 (t 9) (some (t 11)) none), m 13 (.call false 37 [(t 12), (.c (.str [0]))]), m 14 (.len (t 13)), m 15 (.bin .eql .num (t 14) (.c (i 0))), m 2 (.mov (t 15))]) <|
  .ret) (.skip)) <|
  .seq (.region [m 2 (.mov (.c (.bool false)))]) <|
  .ret
def vf19 : VFun := ⟨16, 1, vb19, [.tmp 2], false⟩
theorem cf19 : cFun Go.Proofs.Tryz.prog rawF false Go.Proofs.Tryz.f19 = some vf19 := by kernel_rfl
theorem T19 {args : List PV} {σ : VHeap} {Post : KP} (h : belH σ.length σ → (∀ c, c ∈ args → bel σ.length c) → vrun Go.Proofs.Tryz.prog σ.length vb19 (argsEnv args) (σ ++ [dd]) (vend vf19 (TrimP σ.length Post))) (hl : args.length ≤ 16 := by exact Nat.le_of_ble_eq_true rfl) : T Go.Proofs.Tryz.prog 19 args σ Post := T.walk Go.Proofs.Tryz.func19 cf19 hl rfl h

/-- vinery/timer.New -/
@[reducible] def vb20 : VC :=
  .seq (.region [m 0 (.mov (.c .nilp))]) <|
  .seq (.region [m 1 (.makeMap 0), m 2 (.build [.nilm] [(0, 1, (t 1))]), m 3 (.box 1 (t 2)), m 0 (.mov (t 3))]) <|
  .ret
def vf20 : VFun := ⟨4, 2, vb20, [.tmp 0], false⟩
theorem cf20 : cFun Go.Proofs.Tryz.prog rawF false Go.Proofs.Tryz.f20 = some vf20 := by kernel_rfl
theorem T20 {args : List PV} {σ : VHeap} {Post : KP} (h : vrun Go.Proofs.Tryz.prog σ.length vb20 (argsEnv args) (σ ++ [dd, dd]) (vend vf20 Post)) (hl : args.length ≤ 4 := by exact Nat.le_of_ble_eq_true rfl) : T Go.Proofs.Tryz.prog 20 args σ Post := T.walkR Go.Proofs.Tryz.func20 cf20 hl rfl h

/-- (*vinery/session.Session).Do$1 -/
@[reducible] def vb21 : VC :=
  .skip
def vf21 : VFun := ⟨0, 0, vb21, [], false⟩
theorem cf21 : cFun Go.Proofs.Tryz.prog rawF false Go.Proofs.Tryz.f21 = some vf21 := by kernel_rfl
theorem T21 {args : List PV} {σ : VHeap} {Post : KP} (h : belH σ.length σ → (∀ c, c ∈ args → bel σ.length c) → vrun Go.Proofs.Tryz.prog σ.length vb21 (argsEnv args) (σ ++ []) (vend vf21 (TrimP σ.length Post))) (hl : args.length ≤ 0 := by exact Nat.le_of_ble_eq_true rfl) : T Go.Proofs.Tryz.prog 21 args σ Post := T.walk Go.Proofs.Tryz.func21 cf21 hl rfl h

/-- (*vinery/session.Session).start -/
@[reducible] def vb22 : VC :=
  .seq (.region [m 2 (.mov (t 0)), m 3 (.nilCheck (t 2)), m 4 (.field 22 (t 3)), e (.store 1 (t 4) (.c (.bool false)))]) <|
  .seq (.region [m 5 (.mov (t 0)), m 6 (.nilCheck (t 5)), m 7 (.field 23 (t 6)), m 8 (.load none (t 7)), m 9 (.call false 38 [(t 8), (.c (.str [105, 100, 108, 101]))])]) <|
  .region [m 10 (.mov (t 0)), m 11 (.call false 39 [(t 10)])]
def vf22 : VFun := ⟨12, 0, vb22, [], false⟩
theorem cf22 : cFun Go.Proofs.Tryz.prog rawF false Go.Proofs.Tryz.f22 = some vf22 := by kernel_rfl
theorem T22 {args : List PV} {σ : VHeap} {Post : KP} (h : vrun Go.Proofs.Tryz.prog σ.length vb22 (argsEnv args) (σ ++ []) (vend vf22 Post)) (hl : args.length ≤ 12 := by exact Nat.le_of_ble_eq_true rfl) : T Go.Proofs.Tryz.prog 22 args σ Post := T.walkR Go.Proofs.Tryz.func22 cf22 hl rfl h

/-- (*vinery/session.Session).stop -/
@[reducible] def vb23 : VC :=
  .seq (.region [m 2 (.mov (t 0)), m 3 (.nilCheck (t 2)), m 4 (.field 22 (t 3)), e (.store 1 (t 4) (.c (.bool true)))]) <|
  .seq (.seq (.region [m 5 (.mov (t 0)), m 6 (.call false 25 [(t 5)])]) <|
  .cond (t 6) (.seq (.region [m 7 (.mov (t 0)), m 8 (.build [(i 0), (i 0), .nils] [(0, 1, (.c (i 6))), (1, 1, (.c (i 2)))]), m 9 (.call false 28 [(t 7), (t 8)])]) <|
  .ret) (.skip)) <|
  .region [m 10 (.mov (t 0)), m 11 (.call false 40 [(t 10)])]
def vf23 : VFun := ⟨12, 0, vb23, [], false⟩
theorem cf23 : cFun Go.Proofs.Tryz.prog rawF false Go.Proofs.Tryz.f23 = some vf23 := by kernel_rfl
theorem T23 {args : List PV} {σ : VHeap} {Post : KP} (h : vrun Go.Proofs.Tryz.prog σ.length vb23 (argsEnv args) (σ ++ []) (vend vf23 Post)) (hl : args.length ≤ 12 := by exact Nat.le_of_ble_eq_true rfl) : T Go.Proofs.Tryz.prog 23 args σ Post := T.walkR Go.Proofs.Tryz.func23 cf23 hl rfl h

/-- (*vinery/session.Session).connected -/
@[reducible] def vb24 : VC :=
  .seq (.region [m 3 (.mov (t 0)), m 4 (.nilCheck (t 3)), m 5 (.field 21 (t 4)), e (.store 1 (t 5) (.c (i 2)))]) <|
  .seq (.region [m 6 (.mov (t 0)), m 7 (.nilCheck (t 6)), m 8 (.field 23 (t 7)), m 9 (.load none (t 8)), m 10 (.call false 38 [(t 9), (.c (.str [114, 101, 116, 114, 121]))])]) <|
  .seq (.region [m 11 (.mov (t 0)), m 12 (.nilCheck (t 11)), m 13 (.field 23 (t 12)), m 14 (.load none (t 13)), m 15 (.call false 41 [(t 14), (.c (.str [111, 112, 101, 110])), (.c (i 240))])]) <|
  .seq (.region [m 16 (.mov (t 0)), m 17 (.nilCheck (t 16)), m 18 (.field 0 (t 17)), m 19 (.load (some 21) (t 18)), m 2 (.alloc 0 [(i 0), (i 0), (b 0), (b 0), (b 0), (b 0), (b 0), (b 0), (b 0), (b 0), (b 0), (b 0), (b 0), (b 0), (b 0), (b 0), (b 0), (b 0), (i 0), (i 0), .nils]), e (.store 21 (t 2) (t 19))]) <|
  .dreg [(m 20 (.mov (t 0)), []), (m 21 (.field 0 (t 2)), []), (m 22 (.load none (t 21)), [1]), (m 23 (.field 18 (t 2)), []), (m 24 (.load none (t 23)), [3]), (m 25 (.field 1 (t 2)), []), (m 26 (.load (some 17) (t 25)), [5]), (m 27 (.field 20 (t 2)), []), (m 28 (.load none (t 27)), [7]), (m 29 (.call false 17 [(t 28)]), [8]), (m 30 (.build [(i 0), (i 0), (i 0), (b 0), (b 0), (b 0), (b 0), (b 0), (b 0), (b 0), (b 0), (b 0), (b 0), (b 0), (b 0), (b 0), (b 0), (b 0), (b 0), .nils, (.bool false)] [(0, 1, (t 22)), (1, 1, (t 24)), (2, 17, (t 26)), (19, 1, (t 29)), (20, 1, (.c (.bool true)))]), [2, 4, 6, 9]), (m 31 (.build [(i 0), (i 0), (i 0), (i 0), (b 0), (b 0), (b 0), (b 0), (b 0), (b 0), (b 0), (b 0), (b 0), (b 0), (b 0), (b 0), (b 0), (b 0), (b 0), (b 0), .nils, (.bool false), (i 0), .nils, (i 0), (i 0), (i 0), (b 0), (b 0), (b 0), (b 0), (b 0), (b 0), (b 0), (b 0), (b 0), (b 0), (b 0), (b 0), (b 0), (b 0), (b 0), (b 0), .nils, .nils, .nils, .nils, .nils, (i 0), (i 0), .nils, (i 0), (i 0)] [(0, 1, (.c (i 1))), (1, 21, (t 30))]), [10]), (m 32 (.call false 42 [(t 20), (t 31)]), [0, 11, 9])] [(2, 0), (1, 1), (1, 2), (1, 3), (1, 4), (1, 5), (1, 6), (1, 7), (1, 8), (1, 9), (2, 10), (2, 11), (0, 12)] [0, 0, 2, 0, 8, 0, 32, 0, 128, 384, 1022, 2046, 4095]
def vf24 : VFun := ⟨33, 1, vb24, [], false⟩
theorem cf24 : cFun Go.Proofs.Tryz.prog rawF false Go.Proofs.Tryz.f24 = some vf24 := by kernel_rfl
theorem T24 {args : List PV} {σ : VHeap} {Post : KP} (h : vrun Go.Proofs.Tryz.prog σ.length vb24 (argsEnv args) (σ ++ [dd]) (vend vf24 Post)) (hl : args.length ≤ 33 := by exact Nat.le_of_ble_eq_true rfl) : T Go.Proofs.Tryz.prog 24 args σ Post := T.walkR Go.Proofs.Tryz.func24 cf24 hl rfl h

/-- (*vinery/session.Session).has -/
@[reducible] def vb25 : VC :=
  .seq (.region [m 2 (.mov (.c (.bool false)))]) <|
  .seq (.region [m 3 (.mov (t 0)), m 4 (.nilCheck (t 3)), m 5 (.field 21 (t 4)), m 6 (.load none (t 5)), m 7 (.bin .geq .num (t 6) (.c (i 2))), m 2 (.mov (t 7))]) <|
  .ret
def vf25 : VFun := ⟨8, 0, vb25, [.tmp 2], false⟩
theorem cf25 : cFun Go.Proofs.Tryz.prog rawF false Go.Proofs.Tryz.f25 = some vf25 := by kernel_rfl
theorem T25 {args : List PV} {σ : VHeap} {Post : KP} (h : belH σ.length σ → (∀ c, c ∈ args → bel σ.length c) → vrun Go.Proofs.Tryz.prog σ.length vb25 (argsEnv args) (σ ++ []) (vend vf25 (TrimP σ.length Post))) (hl : args.length ≤ 8 := by exact Nat.le_of_ble_eq_true rfl) : T Go.Proofs.Tryz.prog 25 args σ Post := T.walk Go.Proofs.Tryz.func25 cf25 hl rfl h

/-- (*vinery/session.Session).closed -/
@[reducible] def vb26 : VC :=
  .seq (.region [m 2 (.mov (t 0)), m 3 (.build [(i 0), (i 0), .nils] []), m 4 (.call false 28 [(t 2), (t 3)])]) <|
  .region [m 5 (.mov (t 0)), m 6 (.nilCheck (t 5)), m 7 (.field 43 (t 6)), m 8 (.field 2 (t 7)), e (.store 1 (t 8) (.c (.bool false)))]
def vf26 : VFun := ⟨9, 0, vb26, [], false⟩
theorem cf26 : cFun Go.Proofs.Tryz.prog rawF false Go.Proofs.Tryz.f26 = some vf26 := by kernel_rfl
theorem T26 {args : List PV} {σ : VHeap} {Post : KP} (h : vrun Go.Proofs.Tryz.prog σ.length vb26 (argsEnv args) (σ ++ []) (vend vf26 Post)) (hl : args.length ≤ 9 := by exact Nat.le_of_ble_eq_true rfl) : T Go.Proofs.Tryz.prog 26 args σ Post := T.walkR Go.Proofs.Tryz.func26 cf26 hl rfl h

/-- (*vinery/session.Session).Do$2 -/
@[reducible] def vb27 : VC :=
  .region [m 2 (.load none (t 0)), m 3 (.field 55 (t 1)), m 4 (.load (some 3) (t 3)), m 5 (.call false 28 [(t 2), (t 4)])]
def vf27 : VFun := ⟨6, 0, vb27, [], false⟩
theorem cf27 : cFun Go.Proofs.Tryz.prog rawF false Go.Proofs.Tryz.f27 = some vf27 := by kernel_rfl
theorem T27 {args : List PV} {σ : VHeap} {Post : KP} (h : vrun Go.Proofs.Tryz.prog σ.length vb27 (argsEnv args) (σ ++ []) (vend vf27 Post)) (hl : args.length ≤ 6 := by exact Nat.le_of_ble_eq_true rfl) : T Go.Proofs.Tryz.prog 27 args σ Post := T.walkR Go.Proofs.Tryz.func27 cf27 hl rfl h

/-- (*vinery/session.Session).fall -/
@[reducible] def vb28 : VC :=
  .seq (.region [m 3 (.box 0 (t 1))]) <|
  .seq (.region [m 4 (.mov (t 0)), m 5 (.mov (t 0)), m 6 (.mov (t 0)), m 7 (.nilCheck (t 6)), m 8 (.field 21 (t 7)), m 9 (.load none (t 8)), m 10 (.bin .eql .num (t 9) (.c (i 4))), m 11 (.nilCheck (t 4)), m 12 (.field 43 (t 11)), m 13 (.field 4 (t 12)), e (.store 1 (t 13) (t 10)), m 14 (.nilCheck (t 5)), m 15 (.field 43 (t 14)), m 16 (.field 2 (t 15)), e (.store 1 (t 16) (.c (.bool true)))]) <|
  .seq (.seq (.region [m 17 (.field 0 (t 3)), m 18 (.load none (t 17)), m 19 (.bin .neq .num (t 18) (.c (i 0)))]) <|
  .cond (t 19) (.seq (.region [m 20 (.field 2 (t 3)), m 21 (.load none (t 20)), m 22 (.call false 43 [(t 21)]), m 23 (.field 2 (t 3)), e (.store 1 (t 23) (t 22))]) <|
  .region [m 24 (.mov (t 0)), m 25 (.load (some 3) (t 3)), m 26 (.build [(i 0), (i 0), (i 0), (i 0), (b 0), (b 0), (b 0), (b 0), (b 0), (b 0), (b 0), (b 0), (b 0), (b 0), (b 0), (b 0), (b 0), (b 0), (b 0), (b 0), .nils, (.bool false), (i 0), .nils, (i 0), (i 0), (i 0), (b 0), (b 0), (b 0), (b 0), (b 0), (b 0), (b 0), (b 0), (b 0), (b 0), (b 0), (b 0), (b 0), (b 0), (b 0), (b 0), .nils, .nils, .nils, .nils, .nils, (i 0), (i 0), .nils, (i 0), (i 0)] [(0, 1, (.c (i 3))), (48, 3, (t 25))]), m 27 (.call false 42 [(t 24), (t 26)])]) (.skip)) <|
  .seq (.region [m 28 (.mov (t 0)), m 29 (.call false 40 [(t 28)])]) <|
  .seq (.region [m 30 (.mov (t 0)), m 31 (.nilCheck (t 30)), m 32 (.field 22 (t 31)), m 33 (.load none (t 32)), m 34 (.un .not (t 33))]) <|
  .cond (t 34) (.region [m 35 (.mov (t 0)), m 36 (.nilCheck (t 35)), m 37 (.field 23 (t 36)), m 38 (.load none (t 37)), m 39 (.call false 41 [(t 38), (.c (.str [105, 100, 108, 101])), (.c (i 3))])]) (.skip)
def vf28 : VFun := ⟨40, 1, vb28, [], false⟩
theorem cf28 : cFun Go.Proofs.Tryz.prog rawF false Go.Proofs.Tryz.f28 = some vf28 := by kernel_rfl
theorem T28 {args : List PV} {σ : VHeap} {Post : KP} (h : vrun Go.Proofs.Tryz.prog σ.length vb28 (argsEnv args) (σ ++ [dd]) (vend vf28 Post)) (hl : args.length ≤ 40 := by exact Nat.le_of_ble_eq_true rfl) : T Go.Proofs.Tryz.prog 28 args σ Post := T.walkR Go.Proofs.Tryz.func28 cf28 hl rfl h

/-- (*vinery/session.Session).Do$3 -/
@[reducible] def vb29 : VC :=
  .region [m 2 (.load none (t 0)), m 3 (.field 1 (t 1)), m 4 (.field 0 (t 3)), m 5 (.load (some 53) (t 4)), m 6 (.call false 30 [(t 2), (t 5)])]
def vf29 : VFun := ⟨7, 0, vb29, [], false⟩
theorem cf29 : cFun Go.Proofs.Tryz.prog rawF false Go.Proofs.Tryz.f29 = some vf29 := by kernel_rfl
theorem T29 {args : List PV} {σ : VHeap} {Post : KP} (h : vrun Go.Proofs.Tryz.prog σ.length vb29 (argsEnv args) (σ ++ []) (vend vf29 Post)) (hl : args.length ≤ 7 := by exact Nat.le_of_ble_eq_true rfl) : T Go.Proofs.Tryz.prog 29 args σ Post := T.walkR Go.Proofs.Tryz.func29 cf29 hl rfl h

/-- (*vinery/session.Session).heard -/
@[reducible] def vb30 : VC :=
  .seq (.region [m 3 (.box 0 (t 1))]) <|
  .block 0 <| .seq (.region [m 13 (.field 0 (t 3)), m 14 (.load none (t 13)), m 15 (.bin .eql .num (t 14) (.c (i 3))), m 12 (.mov (t 15))]) <|
  .cond (t 12) (.region [m 16 (.mov (t 0)), m 17 (.build [(i 0), (i 0), .nils] []), m 18 (.call false 28 [(t 16), (t 17)])]) (.seq (.region [m 20 (.mov (t 0)), m 21 (.nilCheck (t 20)), m 22 (.field 21 (t 21)), m 23 (.load none (t 22)), m 24 (.bin .eql .num (t 23) (.c (i 2))), m 25 (.mov (t 24)), g 26 25 true (.field 0 (t 3)), g 27 25 true (.load none (t 26)), g 28 25 true (.bin .eql .num (t 27) (.c (i 1))), m 29 (.pick (t 25) (t 28) (.c (.bool false))), m 19 (.mov (t 29))]) <|
  .cond (t 19) (.region [m 30 (.mov (t 0)), m 31 (.field 1 (t 3)), m 32 (.load (some 21) (t 31)), m 33 (.call false 44 [(t 30), (t 32)])]) (.seq (.region [m 35 (.mov (t 0)), m 36 (.nilCheck (t 35)), m 37 (.field 21 (t 36)), m 38 (.load none (t 37)), m 39 (.bin .eql .num (t 38) (.c (i 3))), m 40 (.mov (t 39)), g 41 40 true (.field 0 (t 3)), g 42 40 true (.load none (t 41)), g 43 40 true (.bin .eql .num (t 42) (.c (i 4))), m 44 (.pick (t 40) (t 43) (.c (.bool false))), m 34 (.mov (t 44))]) <|
  .cond (t 34) (.seq (.region [m 45 (.mov (t 0)), m 46 (.mov (t 0)), m 47 (.nilCheck (t 45)), m 48 (.field 21 (t 47)), e (.store 1 (t 48) (.c (i 4))), m 49 (.nilCheck (t 46)), m 50 (.field 43 (t 49)), m 51 (.field 3 (t 50)), e (.store 1 (t 51) (.c (.bool true)))]) <|
  .dreg [(m 52 (.mov (t 0)), []), (m 53 (.nilCheck (t 52)), [0]), (m 54 (.field 23 (t 53)), [1]), (m 55 (.load none (t 54)), [2]), (m 56 (.mov (t 0)), []), (m 57 (.nilCheck (t 56)), [4]), (m 58 (.field 41 (t 57)), [5]), (m 59 (.load none (t 58)), [6]), (m 60 (.call false 41 [(t 55), (.c (.str [104, 111, 108, 100])), (t 59)]), [3, 7])] [(2, 0), (1, 1), (1, 2), (1, 3), (2, 4), (1, 5), (1, 6), (1, 7), (0, 8)] [0, 1, 3, 7, 0, 16, 48, 112, 255]) (.seq (.region [m 62 (.mov (t 0)), m 63 (.nilCheck (t 62)), m 64 (.field 21 (t 63)), m 65 (.load none (t 64)), m 66 (.bin .eql .num (t 65) (.c (i 4))), m 67 (.mov (t 66)), g 68 67 true (.field 0 (t 3)), g 69 67 true (.load none (t 68)), g 70 67 true (.bin .eql .num (t 69) (.c (i 4))), g 71 67 true (.mov (t 70)), g 72 71 false (.field 0 (t 3)), g 73 71 false (.load none (t 72)), g 74 71 false (.bin .eql .num (t 73) (.c (i 2))), g 75 67 true (.pick (t 71) (.c (.bool true)) (t 74)), g 76 67 true (.mov (t 75)), g 77 76 false (.field 0 (t 3)), g 78 76 false (.load none (t 77)), g 79 76 false (.bin .eql .num (t 78) (.c (i 5))), g 80 67 true (.pick (t 76) (.c (.bool true)) (t 79)), m 81 (.pick (t 67) (t 80) (.c (.bool false))), m 61 (.mov (t 81))]) <|
  .cond (t 61) (.dreg [(m 82 (.mov (t 0)), []), (m 83 (.nilCheck (t 82)), [0]), (m 84 (.field 23 (t 83)), [1]), (m 85 (.load none (t 84)), [2]), (m 86 (.mov (t 0)), []), (m 87 (.nilCheck (t 86)), [4]), (m 88 (.field 41 (t 87)), [5]), (m 89 (.load none (t 88)), [6]), (m 90 (.call false 41 [(t 85), (.c (.str [104, 111, 108, 100])), (t 89)]), [3, 7])] [(2, 0), (1, 1), (1, 2), (1, 3), (2, 4), (1, 5), (1, 6), (1, 7), (0, 8)] [0, 1, 3, 7, 0, 16, 48, 112, 255]) (.region [m 4 (.mov (t 0)), m 5 (.mov (t 0)), m 6 (.nilCheck (t 5)), m 7 (.field 21 (t 6)), m 8 (.load none (t 7)), m 9 (.bin .sub .num (t 8) (.c (i 1))), m 10 (.build [(i 0), (i 0), .nils] [(0, 1, (.c (i 5))), (1, 1, (t 9))]), m 11 (.call false 28 [(t 4), (t 10)])]))))
def vf30 : VFun := ⟨91, 1, vb30, [], false⟩
theorem cf30 : cFun Go.Proofs.Tryz.prog rawF false Go.Proofs.Tryz.f30 = some vf30 := by kernel_rfl
theorem T30 {args : List PV} {σ : VHeap} {Post : KP} (h : vrun Go.Proofs.Tryz.prog σ.length vb30 (argsEnv args) (σ ++ [dd]) (vend vf30 Post)) (hl : args.length ≤ 91 := by exact Nat.le_of_ble_eq_true rfl) : T Go.Proofs.Tryz.prog 30 args σ Post := T.walkR Go.Proofs.Tryz.func30 cf30 hl rfl h

/-- (*vinery/session.Session).tick -/
@[reducible] def vb31 : VC :=
  .seq (.region [m 4 (.mov (t 0)), m 5 (.nilCheck (t 4)), m 6 (.field 23 (t 5)), m 7 (.load none (t 6)), m 8 (.call false 45 [(t 7)]), m 9 (.len (t 8)), m 10 (.mov (.c (i 0)))]) <|
  .block 0 <| .loop <| .seq (.region [m 11 (.bin .lss .num (t 10) (t 9))]) <|
  .seq (.cond (t 11) (.skip) (.exit 0)) <|
  .seq (.block 1 <| .seq (.region [m 12 (.index 1 (t 8) (t 10)), m 13 (.load none (t 12)), m 3 (.mov (t 13))]) <|
  .seq (.region [m 14 (.mov (t 3))]) <|
  .block 2 <| .seq (.region [m 16 (.bin .eql .num (t 14) (.c (.str [97, 108, 105, 118, 101]))), m 15 (.mov (t 16))]) <|
  .cond (t 15) (.seq (.region [m 17 (.mov (t 0)), m 18 (.build [(i 0), (i 0), (i 0), (i 0), (b 0), (b 0), (b 0), (b 0), (b 0), (b 0), (b 0), (b 0), (b 0), (b 0), (b 0), (b 0), (b 0), (b 0), (b 0), (b 0), .nils, (.bool false), (i 0), .nils, (i 0), (i 0), (i 0), (b 0), (b 0), (b 0), (b 0), (b 0), (b 0), (b 0), (b 0), (b 0), (b 0), (b 0), (b 0), (b 0), (b 0), (b 0), (b 0), .nils, .nils, .nils, .nils, .nils, (i 0), (i 0), .nils, (i 0), (i 0)] [(0, 1, (.c (i 4)))]), m 19 (.call false 42 [(t 17), (t 18)])]) <|
  .dreg [(m 20 (.mov (t 0)), []), (m 21 (.nilCheck (t 20)), [0]), (m 22 (.field 23 (t 21)), [1]), (m 23 (.load none (t 22)), [2]), (m 24 (.mov (t 0)), []), (m 25 (.nilCheck (t 24)), [4]), (m 26 (.field 41 (t 25)), [5]), (m 27 (.load none (t 26)), [6]), (m 28 (.bin .quo .num (t 27) (.c (i 3))), [7]), (m 29 (.call false 41 [(t 23), (.c (.str [97, 108, 105, 118, 101])), (t 28)]), [3, 8])] [(2, 0), (1, 1), (1, 2), (1, 3), (2, 4), (1, 5), (1, 6), (1, 7), (2, 8), (0, 9)] [0, 1, 3, 7, 0, 16, 48, 112, 240, 511]) (.seq (.seq (.region [m 31 (.bin .eql .num (t 14) (.c (.str [104, 111, 108, 100]))), m 30 (.mov (t 31))]) <|
  .cond (t 30) (.skip) (.region [m 32 (.bin .eql .num (t 14) (.c (.str [111, 112, 101, 110]))), m 30 (.mov (t 32))])) <|
  .cond (t 30) (.seq (.region [m 33 (.mov (t 0)), m 34 (.build [(i 0), (i 0), .nils] [(0, 1, (.c (i 4)))]), m 35 (.call false 28 [(t 33), (t 34)])]) <|
  .ret) (.seq (.seq (.region [m 37 (.bin .eql .num (t 14) (.c (.str [105, 100, 108, 101]))), m 36 (.mov (t 37))]) <|
  .cond (t 36) (.skip) (.region [m 38 (.bin .eql .num (t 14) (.c (.str [114, 101, 116, 114, 121]))), m 36 (.mov (t 38))])) <|
  .cond (t 36) (.region [m 39 (.mov (t 0)), m 40 (.call false 39 [(t 39)])]) (.skip)))) <|
  .region [m 41 (.bin .add .num (t 10) (.c (i 1))), m 10 (.mov (t 41))]
def vf31 : VFun := ⟨42, 0, vb31, [], false⟩
theorem cf31 : cFun Go.Proofs.Tryz.prog rawF false Go.Proofs.Tryz.f31 = some vf31 := by kernel_rfl
theorem T31 {args : List PV} {σ : VHeap} {Post : KP} (h : vrun Go.Proofs.Tryz.prog σ.length vb31 (argsEnv args) (σ ++ []) (vend vf31 Post)) (hl : args.length ≤ 42 := by exact Nat.le_of_ble_eq_true rfl) : T Go.Proofs.Tryz.prog 31 args σ Post := T.walkR Go.Proofs.Tryz.func31 cf31 hl rfl h

/-- vinery/message.rightOpen -/
@[reducible] def vb32 : VC :=
  .seq (.region [m 1 (.box 0 (t 0)), m 2 (.mov (.c (.bool false)))]) <|
  .seq (.seq (.region [m 5 (.field 19 (t 1)), m 6 (.load none (t 5)), m 7 (.len (t 6)), m 8 (.mov (.c (i 0)))]) <|
  .block 0 <| .loop <| .seq (.region [m 9 (.bin .lss .num (t 8) (t 7))]) <|
  .seq (.cond (t 9) (.skip) (.exit 0)) <|
  .seq (.block 1 <| .seq (.region [m 10 (.mov (t 8)), m 11 (.index 2 (t 6) (t 8)), m 12 (.load (some 2) (t 11)), m 4 (.alloc 1 [(i 0), (i 0)]), m 3 (.mov (t 10)), e (.store 2 (t 4) (t 12))]) <|
  .seq (.dreg [(m 13 (.load (some 2) (t 4)), []), (m 14 (.call false 35 [(t 13)]), [0]), (m 15 (.un .not (t 14)), [1]), (m 16 (.mov (t 15)), [2, 1]), (g 17 16 false (.field 19 (t 1)), [3]), (g 18 16 false (.load none (t 17)), [4, 3]), (g 19 16 false (.mov (t 3)), [3]), (g 20 16 false (.slice 2 (t 18) none (some (t 19))), [5, 6, 3]), (g 21 16 false (.load (some 2) (t 4)), [3]), (g 22 16 false (.call false 46 [(t 20), (t 21)]), [7, 8, 3, 3]), (m 23 (.pick (t 16) (.c (.bool true)) (t 22)), [3, 9])] [(1, 0), (1, 1), (2, 2), (2, 3), (1, 4), (1, 5), (2, 6), (1, 7), (1, 8), (1, 9), (2, 10)] [0, 1, 3, 7, 15, 31, 15, 127, 15, 511, 1023]) <|
  .cond (t 23) (.seq (.region [m 2 (.mov (.c (.bool false)))]) <|
  .ret) (.skip)) <|
  .region [m 24 (.bin .add .num (t 8) (.c (i 1))), m 8 (.mov (t 24))]) <|
  .seq (.region [m 25 (.field 2 (t 1)), m 26 (.load (some 17) (t 25)), m 27 (.call false 47 [(t 26)]), m 28 (.mov (t 27)), g 29 28 true (.field 0 (t 1)), g 30 28 true (.load none (t 29)), g 31 28 true (.bin .geq .num (t 30) (.c (i 1))), m 32 (.pick (t 28) (t 31) (.c (.bool false))), m 33 (.mov (t 32)), g 34 33 true (.field 0 (t 1)), g 35 33 true (.load none (t 34)), g 36 33 true (.bin .leq .num (t 35) (.c (i 4294967295))), m 37 (.pick (t 33) (t 36) (.c (.bool false))), m 38 (.mov (t 37)), g 39 38 true (.field 1 (t 1)), g 40 38 true (.load none (t 39)), g 41 38 true (.bin .eql .num (t 40) (.c (i 0))), g 42 38 true (.mov (t 41)), g 43 42 false (.field 1 (t 1)), g 44 42 false (.load none (t 43)), g 45 42 false (.bin .geq .num (t 44) (.c (i 3))), g 46 42 false (.mov (t 45)), g 47 46 true (.field 1 (t 1)), g 48 46 true (.load none (t 47)), g 49 46 true (.bin .lss .num (t 48) (.c (i 65536))), g 50 42 false (.pick (t 46) (t 49) (.c (.bool false))), g 51 38 true (.pick (t 42) (.c (.bool true)) (t 50)), m 52 (.pick (t 38) (t 51) (.c (.bool false))), m 2 (.mov (t 52))]) <|
  .ret
def vf32 : VFun := ⟨53, 2, vb32, [.tmp 2], false⟩
theorem cf32 : cFun Go.Proofs.Tryz.prog rawF false Go.Proofs.Tryz.f32 = some vf32 := by kernel_rfl
theorem T32 {args : List PV} {σ : VHeap} {Post : KP} (h : belH σ.length σ → (∀ c, c ∈ args → bel σ.length c) → vrun Go.Proofs.Tryz.prog σ.length vb32 (argsEnv args) (σ ++ [dd, dd]) (vend vf32 (TrimP σ.length Post))) (hl : args.length ≤ 53 := by exact Nat.le_of_ble_eq_true rfl) : T Go.Proofs.Tryz.prog 32 args σ Post := T.walk Go.Proofs.Tryz.func32 cf32 hl rfl h

/-- vinery/update.Right -/
@[reducible] def vb33 : VC :=
  .seq (.region [m 1 (.box 0 (t 0)), m 2 (.mov (.c (.bool false)))]) <|
  .seq (.block 0 <| .seq (.seq (.region [m 4 (.field 0 (t 1)), m 5 (.load (some 24) (t 4)), m 6 (.call false 48 [(t 5)]), m 7 (.un .not (t 6)), m 3 (.mov (t 7))]) <|
  .cond (t 3) (.skip) (.seq (.region [m 8 (.field 24 (t 1)), m 9 (.load none (t 8)), m 10 (.len (t 9)), m 11 (.bin .gtr .num (t 10) (.c (i 1))), m 3 (.mov (t 11))]) <|
  .cond (t 3) (.skip) (.region [m 12 (.field 25 (t 1)), m 13 (.load none (t 12)), m 14 (.len (t 13)), m 15 (.bin .gtr .num (t 14) (.c (i 1))), m 3 (.mov (t 15))]))) <|
  .cond (t 3) (.seq (.region [m 2 (.mov (.c (.bool false)))]) <|
  .ret) (.seq (.dreg [(m 17 (.field 24 (t 1)), []), (m 18 (.load none (t 17)), [0]), (m 19 (.len (t 18)), [1]), (m 20 (.bin .eql .num (t 19) (.c (i 0))), [2]), (m 21 (.mov (t 20)), [3]), (g 22 21 true (.field 0 (t 1)), [4]), (g 23 21 true (.load (some 24) (t 22)), [5, 4]), (g 24 21 true (.call false 50 []), [4, 4]), (g 25 21 true (.call false 49 [(t 23), (t 24)]), [6, 7, 7, 4]), (g 26 21 true (.un .not (t 25)), [8, 4]), (m 27 (.pick (t 21) (t 26) (.c (.bool false))), [4, 9]), (m 16 (.mov (t 27)), [10, 8])] [(1, 0), (1, 1), (1, 2), (2, 3), (2, 4), (1, 5), (1, 6), (1, 7), (1, 8), (2, 9), (2, 10), (2, 11)] [0, 1, 3, 7, 15, 31, 63, 31, 255, 511, 1023, 2047]) <|
  .cond (t 16) (.seq (.region [m 2 (.mov (.c (.bool false)))]) <|
  .ret) (.seq (.region [m 29 (.field 24 (t 1)), m 30 (.load none (t 29)), m 31 (.call false 51 [(t 30), (.c (.fn 52 []))]), m 28 (.mov (t 31))]) <|
  .cond (t 28) (.seq (.region [m 2 (.mov (.c (.bool false)))]) <|
  .ret) (.skip)))) <|
  .seq (.region [m 32 (.field 25 (t 1)), m 33 (.load none (t 32)), m 34 (.call false 51 [(t 33), (.c (.fn 55 []))]), m 35 (.un .not (t 34)), m 2 (.mov (t 35))]) <|
  .ret
def vf33 : VFun := ⟨36, 1, vb33, [.tmp 2], false⟩
theorem cf33 : cFun Go.Proofs.Tryz.prog rawF false Go.Proofs.Tryz.f33 = some vf33 := by kernel_rfl
theorem T33 {args : List PV} {σ : VHeap} {Post : KP} (h : belH σ.length σ → (∀ c, c ∈ args → bel σ.length c) → vrun Go.Proofs.Tryz.prog σ.length vb33 (argsEnv args) (σ ++ [dd]) (vend vf33 (TrimP σ.length Post))) (hl : args.length ≤ 36 := by exact Nat.le_of_ble_eq_true rfl) : T Go.Proofs.Tryz.prog 33 args σ Post := T.walk Go.Proofs.Tryz.func33 cf33 hl rfl h

/-- vinery/message.rightNote -/
@[reducible] def vb34 : VC :=
  .seq (.region [m 1 (.box 0 (t 0)), m 2 (.mov (.c (.bool false)))]) <|
  .seq (.region [m 3 (.field 0 (t 1)), m 4 (.load none (t 3)), m 5 (.bin .geq .num (t 4) (.c (i 0))), m 6 (.mov (t 5)), g 7 6 true (.field 0 (t 1)), g 8 6 true (.load none (t 7)), g 9 6 true (.bin .leq .num (t 8) (.c (i 255))), m 10 (.pick (t 6) (t 9) (.c (.bool false))), m 11 (.mov (t 10)), g 12 11 true (.field 1 (t 1)), g 13 11 true (.load none (t 12)), g 14 11 true (.bin .geq .num (t 13) (.c (i 0))), m 15 (.pick (t 11) (t 14) (.c (.bool false))), m 16 (.mov (t 15)), g 17 16 true (.field 1 (t 1)), g 18 16 true (.load none (t 17)), g 19 16 true (.bin .leq .num (t 18) (.c (i 255))), m 20 (.pick (t 16) (t 19) (.c (.bool false))), m 21 (.mov (t 20)), g 22 21 true (.field 2 (t 1)), g 23 21 true (.load none (t 22)), g 24 21 true (.len (t 23)), g 25 21 true (.bin .leq .num (t 24) (.c (i 4075))), m 26 (.pick (t 21) (t 25) (.c (.bool false))), m 2 (.mov (t 26))]) <|
  .ret
def vf34 : VFun := ⟨27, 1, vb34, [.tmp 2], false⟩
theorem cf34 : cFun Go.Proofs.Tryz.prog rawF false Go.Proofs.Tryz.f34 = some vf34 := by kernel_rfl
theorem T34 {args : List PV} {σ : VHeap} {Post : KP} (h : belH σ.length σ → (∀ c, c ∈ args → bel σ.length c) → vrun Go.Proofs.Tryz.prog σ.length vb34 (argsEnv args) (σ ++ [dd]) (vend vf34 (TrimP σ.length Post))) (hl : args.length ≤ 27 := by exact Nat.le_of_ble_eq_true rfl) : T Go.Proofs.Tryz.prog 34 args σ Post := T.walk Go.Proofs.Tryz.func34 cf34 hl rfl h

/-- vinery/message.known -/
@[reducible] def vb35 : VC :=
  .seq (.region [m 1 (.box 0 (t 0)), m 2 (.mov (.c (.bool false)))]) <|
  .seq (.region [m 3 (.field 0 (t 1)), m 4 (.load none (t 3)), m 5 (.bin .eql .num (t 4) (.c (i 4))), m 6 (.mov (t 5)), g 7 6 false (.field 0 (t 1)), g 8 6 false (.load none (t 7)), g 9 6 false (.bin .eql .num (t 8) (.c (i 16))), m 10 (.pick (t 6) (.c (.bool true)) (t 9)), m 11 (.mov (t 10)), g 12 11 true (.field 1 (t 1)), g 13 11 true (.load none (t 12)), g 14 11 true (.bin .eql .num (t 13) (.c (i 5))), g 15 11 true (.mov (t 14)), g 16 15 false (.field 1 (t 1)), g 17 15 false (.load none (t 16)), g 18 15 false (.bin .eql .num (t 17) (.c (i 128))), g 19 11 true (.pick (t 15) (.c (.bool true)) (t 18)), m 20 (.pick (t 11) (t 19) (.c (.bool false))), m 2 (.mov (t 20))]) <|
  .ret
def vf35 : VFun := ⟨21, 1, vb35, [.tmp 2], false⟩
theorem cf35 : cFun Go.Proofs.Tryz.prog rawF false Go.Proofs.Tryz.f35 = some vf35 := by kernel_rfl
theorem T35 {args : List PV} {σ : VHeap} {Post : KP} (h : belH σ.length σ → (∀ c, c ∈ args → bel σ.length c) → vrun Go.Proofs.Tryz.prog σ.length vb35 (argsEnv args) (σ ++ [dd]) (vend vf35 (TrimP σ.length Post))) (hl : args.length ≤ 21 := by exact Nat.le_of_ble_eq_true rfl) : T Go.Proofs.Tryz.prog 35 args σ Post := T.walk Go.Proofs.Tryz.func35 cf35 hl rfl h

/-- vinery/message.Same -/
@[reducible] def vb36 : VC :=
  .seq (.region [m 2 (.box 0 (t 0)), m 3 (.box 1 (t 1)), m 4 (.mov (.c (.bool false)))]) <|
  .seq (.region [m 6 (.field 22 (t 2)), m 7 (.load (some 26) (t 6)), m 8 (.field 22 (t 3)), m 9 (.load (some 26) (t 8)), m 10 (.call false 56 [(t 7), (t 9)]), m 11 (.mov (t 10)), g 12 11 false (.field 22 (t 2)), g 13 11 false (.load (some 26) (t 12)), g 14 11 false (.call false 57 [(t 13)]), g 15 11 false (.mov (t 14)), g 16 15 true (.field 22 (t 3)), g 17 15 true (.load (some 26) (t 16)), g 18 15 true (.call false 57 [(t 17)]), g 19 11 false (.pick (t 15) (t 18) (.c (.bool false))), m 20 (.pick (t 11) (.c (.bool true)) (t 19)), m 5 (.mov (t 20))]) <|
  .seq (.region [m 21 (.field 0 (t 2)), m 22 (.load none (t 21)), m 23 (.field 0 (t 3)), m 24 (.load none (t 23)), m 25 (.bin .eql .num (t 22) (t 24)), m 26 (.mov (t 25)), g 27 26 true (.field 51 (t 2)), g 28 26 true (.load (some 2) (t 27)), g 29 26 true (.field 51 (t 3)), g 30 26 true (.load (some 2) (t 29)), g 31 26 true (.eqAgg [(.i .i64), (.i .i64)] false (t 28) (t 30)), m 32 (.pick (t 26) (t 31) (.c (.bool false))), m 33 (.mov (t 32)), g 34 33 true (.field 1 (t 2)), g 35 33 true (.load (some 21) (t 34)), g 36 33 true (.field 1 (t 3)), g 37 33 true (.load (some 21) (t 36)), g 38 33 true (.call false 58 [(t 35), (t 37)]), m 39 (.pick (t 33) (t 38) (.c (.bool false))), m 40 (.mov (t 39)), g 41 40 true (.mov (t 5)), m 42 (.pick (t 40) (t 41) (.c (.bool false))), m 43 (.mov (t 42)), g 44 43 true (.field 48 (t 2)), g 45 43 true (.load (some 3) (t 44)), g 46 43 true (.field 48 (t 3)), g 47 43 true (.load (some 3) (t 46)), g 48 43 true (.call false 59 [(t 45), (t 47)]), m 49 (.pick (t 43) (t 48) (.c (.bool false))), m 4 (.mov (t 49))]) <|
  .ret
def vf36 : VFun := ⟨50, 2, vb36, [.tmp 4], false⟩
theorem cf36 : cFun Go.Proofs.Tryz.prog rawF false Go.Proofs.Tryz.f36 = some vf36 := by kernel_rfl
theorem T36 {args : List PV} {σ : VHeap} {Post : KP} (h : belH σ.length σ → (∀ c, c ∈ args → bel σ.length c) → vrun Go.Proofs.Tryz.prog σ.length vb36 (argsEnv args) (σ ++ [dd, dd]) (vend vf36 (TrimP σ.length Post))) (hl : args.length ≤ 50 := by exact Nat.le_of_ble_eq_true rfl) : T Go.Proofs.Tryz.prog 36 args σ Post := T.walk Go.Proofs.Tryz.func36 cf36 hl rfl h

/-- bytes.Trim -/
@[reducible] def vb37 : VC :=
  .seq (.region [m 4 (.newRow 0 1)]) <|
  .seq (.seq (.region [m 7 (.mov (t 0)), m 8 (.len (t 7)), m 9 (.bin .eql .num (t 8) (.c (i 0)))]) <|
  .cond (t 9) (.seq (.region [m 4 (.newRow 0 1)]) <|
  .ret) (.skip)) <|
  .seq (.seq (.region [m 10 (.mov (t 1)), m 11 (.bin .eql .num (t 10) (.c (.str [])))]) <|
  .cond (t 11) (.seq (.region [m 12 (.mov (t 0)), m 4 (.mov (t 12))]) <|
  .ret) (.skip)) <|
  .seq (.seq (.region [m 13 (.mov (t 1)), m 14 (.lenStr (t 13)), m 15 (.bin .eql .num (t 14) (.c (i 1))), m 16 (.mov (t 15)), g 17 16 true (.mov (t 1)), g 18 16 true (.indexStr (t 17) (.c (i 0))), g 19 16 true (.bin .lss .num (t 18) (.c (b 128))), m 20 (.pick (t 16) (t 19) (.c (.bool false)))]) <|
  .cond (t 20) (.seq (.dreg [(m 21 (.mov (t 0)), []), (m 22 (.mov (t 1)), []), (m 23 (.indexStr (t 22) (.c (i 0))), [1]), (m 24 (.call false 61 [(t 21), (t 23)]), [0, 2]), (m 25 (.mov (t 1)), []), (m 26 (.indexStr (t 25) (.c (i 0))), [4]), (m 27 (.call false 60 [(t 24), (t 26)]), [3, 5, 3]), (m 4 (.mov (t 27)), [6, 6, 0, 1, 2, 3, 4, 5, 6])] [(2, 0), (2, 1), (2, 2), (1, 3), (2, 4), (2, 5), (1, 6), (2, 7)] [0, 0, 2, 7, 0, 16, 63, 127]) <|
  .ret) (.skip)) <|
  .seq (.seq (.region [m 29 (.mov (t 1)), m 30 (.call false 62 [(t 29)]), m 28 (.mov (t 30)), m 31 (.extract 0 (t 28)), m 32 (.extract 1 (t 28)), m 5 (.alloc 1 (List.replicate 256 (.bool false))), e (.store 256 (t 5) (t 31)), m 6 (.mov (t 32))]) <|
  .seq (.region [m 33 (.mov (t 6))]) <|
  .cond (t 33) (.seq (.region [m 34 (.mov (t 0)), m 35 (.call false 64 [(t 34), (t 5)]), m 36 (.call false 63 [(t 35), (t 5)]), m 4 (.mov (t 36))]) <|
  .ret) (.skip)) <|
  .seq (.region [m 37 (.mov (t 0)), m 38 (.mov (t 1)), m 39 (.call false 66 [(t 37), (t 38)]), m 40 (.mov (t 1)), m 41 (.call false 65 [(t 39), (t 40)]), m 4 (.mov (t 41))]) <|
  .ret
def vf37 : VFun := ⟨42, 2, vb37, [.tmp 4], false⟩
theorem cf37 : cFun Go.Proofs.Tryz.prog rawF false Go.Proofs.Tryz.f37 = some vf37 := by kernel_rfl
theorem T37 {args : List PV} {σ : VHeap} {Post : KP} (h : belH σ.length σ → (∀ c, c ∈ args → bel σ.length c) → vrun Go.Proofs.Tryz.prog σ.length vb37 (argsEnv args) (σ ++ [dd, dd]) (vend vf37 (TrimP σ.length Post))) (hl : args.length ≤ 42 := by exact Nat.le_of_ble_eq_true rfl) : T Go.Proofs.Tryz.prog 37 args σ Post := T.walk Go.Proofs.Tryz.func37 cf37 hl rfl h

/-- (*vinery/timer.Timers).Stop -/
@[reducible] def vb38 : VC :=
  .seq (.region [m 4 (.mov (.c (.bool false)))]) <|
  .seq (.region [m 8 (.mov (t 0)), m 9 (.nilCheck (t 8)), m 10 (.field 0 (t 9)), m 11 (.load none (t 10)), m 12 (.mov (t 1)), m 13 (.lookup true (i 0) true (t 11) (t 12)), m 7 (.mov (t 13)), m 14 (.extract 0 (t 7)), m 15 (.extract 1 (t 7)), m 5 (.mov (t 14)), m 6 (.mov (t 15))]) <|
  .seq (.region [m 16 (.mov (t 0)), m 17 (.nilCheck (t 16)), m 18 (.field 0 (t 17)), m 19 (.load none (t 18)), m 20 (.mov (t 1)), e (.delete true (t 19) (t 20))]) <|
  .seq (.region [m 21 (.mov (t 6)), m 4 (.mov (t 21))]) <|
  .ret
def vf38 : VFun := ⟨22, 0, vb38, [.tmp 4], false⟩
theorem cf38 : cFun Go.Proofs.Tryz.prog rawF false Go.Proofs.Tryz.f38 = some vf38 := by kernel_rfl
theorem T38 {args : List PV} {σ : VHeap} {Post : KP} (h : vrun Go.Proofs.Tryz.prog σ.length vb38 (argsEnv args) (σ ++ []) (vend vf38 Post)) (hl : args.length ≤ 22 := by exact Nat.le_of_ble_eq_true rfl) : T Go.Proofs.Tryz.prog 38 args σ Post := T.walkR Go.Proofs.Tryz.func38 cf38 hl rfl h

/-- (*vinery/session.Session).dial -/
@[reducible] def vb39 : VC :=
  .seq (.region [m 2 (.mov (t 0)), m 3 (.mov (t 0)), m 4 (.nilCheck (t 2)), m 5 (.field 21 (t 4)), e (.store 1 (t 5) (.c (i 1))), m 6 (.nilCheck (t 3)), m 7 (.field 43 (t 6)), m 8 (.field 1 (t 7)), e (.store 1 (t 8) (.c (.bool true)))]) <|
  .region [m 9 (.mov (t 0)), m 10 (.nilCheck (t 9)), m 11 (.field 23 (t 10)), m 12 (.load none (t 11)), m 13 (.call false 41 [(t 12), (.c (.str [114, 101, 116, 114, 121])), (.c (i 5))])]
def vf39 : VFun := ⟨14, 0, vb39, [], false⟩
theorem cf39 : cFun Go.Proofs.Tryz.prog rawF false Go.Proofs.Tryz.f39 = some vf39 := by kernel_rfl
theorem T39 {args : List PV} {σ : VHeap} {Post : KP} (h : vrun Go.Proofs.Tryz.prog σ.length vb39 (argsEnv args) (σ ++ []) (vend vf39 Post)) (hl : args.length ≤ 14 := by exact Nat.le_of_ble_eq_true rfl) : T Go.Proofs.Tryz.prog 39 args σ Post := T.walkR Go.Proofs.Tryz.func39 cf39 hl rfl h

/-- (*vinery/session.Session).still -/
@[reducible] def vb40 : VC :=
  .seq (.region [m 2 (.mov (t 0)), m 3 (.nilCheck (t 2)), m 4 (.field 23 (t 3)), m 5 (.load none (t 4)), m 6 (.call false 67 [(t 5)])]) <|
  .region [m 7 (.mov (t 0)), m 8 (.mov (t 0)), m 9 (.mov (t 0)), m 10 (.mov (t 0)), m 11 (.build [(i 0), (b 0), (b 0), (b 0), (b 0), (b 0), (b 0), (b 0), (b 0), (b 0), (b 0), (b 0), (b 0), (b 0), (b 0), (b 0), (b 0)] []), m 12 (.nilCheck (t 7)), m 13 (.field 21 (t 12)), e (.store 1 (t 13) (.c (i 0))), m 14 (.nilCheck (t 8)), m 15 (.field 24 (t 14)), e (.store 17 (t 15) (t 11)), m 16 (.nilCheck (t 9)), m 17 (.field 41 (t 16)), e (.store 1 (t 17) (.c (i 0))), m 18 (.nilCheck (t 10)), m 19 (.field 42 (t 18)), e (.store 1 (t 19) (.c .nils))]
def vf40 : VFun := ⟨20, 0, vb40, [], false⟩
theorem cf40 : cFun Go.Proofs.Tryz.prog rawF false Go.Proofs.Tryz.f40 = some vf40 := by kernel_rfl
theorem T40 {args : List PV} {σ : VHeap} {Post : KP} (h : vrun Go.Proofs.Tryz.prog σ.length vb40 (argsEnv args) (σ ++ []) (vend vf40 Post)) (hl : args.length ≤ 20 := by exact Nat.le_of_ble_eq_true rfl) : T Go.Proofs.Tryz.prog 40 args σ Post := T.walkR Go.Proofs.Tryz.func40 cf40 hl rfl h

/-- (*vinery/timer.Timers).Start -/
@[reducible] def vb41 : VC :=
  .seq (.region [m 6 (.mov (.c (i 0)))]) <|
  .seq (.region [m 10 (.mov (t 0)), m 11 (.nilCheck (t 10)), m 12 (.field 0 (t 11)), m 13 (.load none (t 12)), m 14 (.mov (t 1)), m 15 (.lookup true (i 0) true (t 13) (t 14)), m 9 (.mov (t 15)), m 16 (.extract 0 (t 9)), m 17 (.extract 1 (t 9)), m 7 (.mov (t 16)), m 8 (.mov (t 17))]) <|
  .seq (.block 0 <| .seq (.region [m 19 (.mov (t 2)), m 20 (.bin .lss .num (t 19) (.c (i 1))), m 18 (.mov (t 20))]) <|
  .cond (t 18) (.seq (.region [m 6 (.mov (.c (i 1)))]) <|
  .ret) (.seq (.region [m 22 (.mov (t 8)), m 23 (.un .not (t 22)), m 24 (.mov (t 23)), g 25 24 true (.mov (t 0)), g 26 24 true (.nilCheck (t 25)), g 27 24 true (.field 0 (t 26)), g 28 24 true (.load none (t 27)), g 29 24 true (.lenMap (t 28)), g 30 24 true (.bin .geq .num (t 29) (.c (i 32))), m 31 (.pick (t 24) (t 30) (.c (.bool false))), m 21 (.mov (t 31))]) <|
  .cond (t 21) (.seq (.region [m 6 (.mov (.c (i 6)))]) <|
  .ret) (.skip))) <|
  .seq (.region [m 32 (.mov (t 0)), m 33 (.nilCheck (t 32)), m 34 (.field 0 (t 33)), m 35 (.load none (t 34)), m 36 (.mov (t 1)), m 37 (.mov (t 2)), e (.mapUpdate true (t 35) (t 36) (t 37))]) <|
  .seq (.region [m 6 (.mov (.c (i 0)))]) <|
  .ret
def vf41 : VFun := ⟨38, 0, vb41, [.tmp 6], false⟩
theorem cf41 : cFun Go.Proofs.Tryz.prog rawF false Go.Proofs.Tryz.f41 = some vf41 := by kernel_rfl
theorem T41 {args : List PV} {σ : VHeap} {Post : KP} (h : vrun Go.Proofs.Tryz.prog σ.length vb41 (argsEnv args) (σ ++ []) (vend vf41 Post)) (hl : args.length ≤ 38 := by exact Nat.le_of_ble_eq_true rfl) : T Go.Proofs.Tryz.prog 41 args σ Post := T.walkR Go.Proofs.Tryz.func41 cf41 hl rfl h

/-- (*vinery/session.Session).send -/
@[reducible] def vb42 : VC :=
  .seq (.region [m 3 (.box 0 (t 1))]) <|
  .dreg [(m 4 (.mov (t 0)), []), (m 5 (.mov (t 0)), []), (m 6 (.nilCheck (t 5)), [1]), (m 7 (.field 43 (t 6)), [2]), (m 8 (.field 0 (t 7)), [3]), (m 9 (.load none (t 8)), [4]), (m 10 (.load (some 53) (t 3)), []), (m 11 (.buildSlice 1 53 1 [(i 0), (i 0), (i 0), (i 0), (b 0), (b 0), (b 0), (b 0), (b 0), (b 0), (b 0), (b 0), (b 0), (b 0), (b 0), (b 0), (b 0), (b 0), (b 0), (b 0), .nils, (.bool false), (i 0), .nils, (i 0), (i 0), (i 0), (b 0), (b 0), (b 0), (b 0), (b 0), (b 0), (b 0), (b 0), (b 0), (b 0), (b 0), (b 0), (b 0), (b 0), (b 0), (b 0), .nils, .nils, .nils, .nils, .nils, (i 0), (i 0), .nils, (i 0), (i 0)] [(0, (t 10))]), [6]), (m 12 (.append 2 53 328 (t 9) (t 11)), [5, 7]), (m 13 (.nilCheck (t 4)), [0, 0, 1, 2, 3, 4, 5, 6, 7, 8]), (m 14 (.field 43 (t 13)), [9, 0, 1, 2, 3, 4, 5, 6, 7, 8]), (m 15 (.field 0 (t 14)), [10, 0, 1, 2, 3, 4, 5, 6, 7, 8]), (e (.store 1 (t 15) (t 12)), [11, 8, 8, 0, 1, 2, 3, 4, 5, 6, 7, 8])] [(2, 0), (2, 1), (2, 2), (2, 3), (2, 4), (2, 5), (1, 6), (0, 7), (0, 8), (1, 9), (1, 10), (1, 11), (0, 12)] [0, 0, 2, 6, 14, 30, 0, 64, 254, 511, 1023, 2047, 4095]
def vf42 : VFun := ⟨16, 3, vb42, [], false⟩
theorem cf42 : cFun Go.Proofs.Tryz.prog rawF false Go.Proofs.Tryz.f42 = some vf42 := by kernel_rfl
theorem T42 {args : List PV} {σ : VHeap} {Post : KP} (h : vrun Go.Proofs.Tryz.prog σ.length vb42 (argsEnv args) (σ ++ [dd, dd, dd]) (vend vf42 Post)) (hl : args.length ≤ 16 := by exact Nat.le_of_ble_eq_true rfl) : T Go.Proofs.Tryz.prog 42 args σ Post := T.walkR Go.Proofs.Tryz.func42 cf42 hl rfl h

/-- bytes.Clone -/
@[reducible] def vb43 : VC :=
  .seq (.region [m 2 (.newRow 0 1)]) <|
  .seq (.seq (.region [m 3 (.mov (t 0)), m 4 (.bin .eql .slice (t 3) (.c .nils))]) <|
  .cond (t 4) (.seq (.region [m 2 (.newRow 0 1)]) <|
  .ret) (.skip)) <|
  .seq (.region [m 5 (.buildSlice 1 1 0 [(b 0)] []), m 6 (.mov (t 0)), m 7 (.append 2 1 1 (t 5) (t 6)), m 2 (.mov (t 7))]) <|
  .ret
def vf43 : VFun := ⟨8, 3, vb43, [.tmp 2], false⟩
theorem cf43 : cFun Go.Proofs.Tryz.prog rawF false Go.Proofs.Tryz.f43 = some vf43 := by kernel_rfl
theorem T43 {args : List PV} {σ : VHeap} {Post : KP} (h : belH σ.length σ → (∀ c, c ∈ args → bel σ.length c) → vrun Go.Proofs.Tryz.prog σ.length vb43 (argsEnv args) (σ ++ [dd, dd, dd]) (vend vf43 (TrimP σ.length Post))) (hl : args.length ≤ 8 := by exact Nat.le_of_ble_eq_true rfl) : T Go.Proofs.Tryz.prog 43 args σ Post := T.walk Go.Proofs.Tryz.func43 cf43 hl rfl h

/-- (*vinery/session.Session).opened -/
@[reducible] def vb44 : VC :=
  .seq (.region [m 3 (.box 0 (t 1))]) <|
  .seq (.block 0 <| .seq (.dreg [(m 7 (.field 0 (t 3)), []), (m 8 (.load none (t 7)), [0]), (m 9 (.mov (t 0)), []), (m 10 (.nilCheck (t 9)), [2]), (m 11 (.field 0 (t 10)), [3]), (m 12 (.field 19 (t 11)), [4]), (m 13 (.load none (t 12)), [5]), (m 14 (.bin .neq .num (t 8) (t 13)), [1, 6]), (m 6 (.mov (t 14)), [7])] [(1, 0), (1, 1), (2, 2), (1, 3), (1, 4), (1, 5), (1, 6), (2, 7), (2, 8)] [0, 1, 0, 4, 12, 28, 60, 127, 255]) <|
  .cond (t 6) (.seq (.region [m 15 (.mov (t 0)), m 16 (.build [(i 0), (i 0), .nils] [(0, 1, (.c (i 2))), (1, 1, (.c (i 2)))]), m 17 (.call false 28 [(t 15), (t 16)])]) <|
  .ret) (.seq (.dreg [(m 19 (.field 2 (t 3)), []), (m 20 (.load (some 17) (t 19)), [0]), (m 21 (.mov (t 0)), []), (m 22 (.nilCheck (t 21)), [2]), (m 23 (.field 0 (t 22)), [3]), (m 24 (.field 1 (t 23)), [4]), (m 25 (.load (some 17) (t 24)), [5]), (m 26 (.eqAgg [(.i .i64), (.i .u8), (.i .u8), (.i .u8), (.i .u8), (.i .u8), (.i .u8), (.i .u8), (.i .u8), (.i .u8), (.i .u8), (.i .u8), (.i .u8), (.i .u8), (.i .u8), (.i .u8), (.i .u8)] false (t 20) (t 25)), [1, 6]), (m 18 (.mov (t 26)), [7])] [(1, 0), (1, 1), (2, 2), (1, 3), (1, 4), (1, 5), (1, 6), (2, 7), (2, 8)] [0, 1, 0, 4, 12, 28, 60, 127, 255]) <|
  .cond (t 18) (.seq (.region [m 27 (.mov (t 0)), m 28 (.build [(i 0), (i 0), .nils] [(0, 1, (.c (i 2))), (1, 1, (.c (i 3)))]), m 29 (.call false 28 [(t 27), (t 28)])]) <|
  .ret) (.skip))) <|
  .seq (.dreg [(m 30 (.mov (t 0)), []), (m 31 (.mov (t 0)), []), (m 32 (.field 2 (t 3)), []), (m 33 (.load (some 17) (t 32)), [2]), (m 34 (.mov (t 0)), []), (m 35 (.nilCheck (t 34)), [4]), (m 36 (.field 0 (t 35)), [5]), (m 37 (.field 18 (t 36)), [6]), (m 38 (.load none (t 37)), [7]), (m 39 (.field 1 (t 3)), []), (m 40 (.load none (t 39)), [9]), (m 41 (.minmax false (t 38) (t 40)), [8, 10]), (m 42 (.nilCheck (t 30)), [0, 0, 2, 3, 8]), (m 43 (.field 24 (t 42)), [12, 0, 2, 3, 8]), (e (.store 17 (t 43) (t 33)), [13, 3, 0, 2, 3, 8]), (m 44 (.nilCheck (t 31)), [1, 0, 1, 2, 3, 4, 5, 6, 7, 8, 9, 10, 11, 12, 13, 14]), (m 45 (.field 41 (t 44)), [15, 0, 1, 2, 3, 4, 5, 6, 7, 8, 9, 10, 11, 12, 13, 14]), (e (.store 1 (t 45) (t 41)), [16, 11, 14, 0, 1, 2, 3, 4, 5, 6, 7, 8, 9, 10, 11, 12, 13, 14])] [(2, 0), (2, 1), (1, 2), (1, 3), (2, 4), (1, 5), (1, 6), (1, 7), (1, 8), (2, 9), (2, 10), (2, 11), (1, 12), (1, 13), (0, 14), (1, 15), (1, 16), (0, 17)] [0, 0, 0, 4, 0, 16, 48, 112, 240, 0, 512, 2032, 509, 4605, 12797, 32767, 65535, 131071]) <|
  .seq (.seq (.region [m 46 (.mov (t 0)), m 47 (.nilCheck (t 46)), m 48 (.field 0 (t 47)), m 49 (.field 20 (t 48)), m 50 (.load none (t 49)), m 51 (.len (t 50)), m 52 (.mov (.c (i 0)))]) <|
  .block 1 <| .loop <| .seq (.region [m 53 (.bin .lss .num (t 52) (t 51))]) <|
  .seq (.cond (t 53) (.skip) (.exit 1)) <|
  .seq (.block 2 <| .seq (.region [m 54 (.index 2 (t 50) (t 52)), m 55 (.load (some 2) (t 54)), m 5 (.alloc 1 [(i 0), (i 0)]), e (.store 2 (t 5) (t 55))]) <|
  .seq (.region [m 56 (.field 19 (t 3)), m 57 (.load none (t 56)), m 58 (.load (some 2) (t 5)), m 59 (.call false 46 [(t 57), (t 58)])]) <|
  .cond (t 59) (.dreg [(m 60 (.mov (t 0)), []), (m 61 (.mov (t 0)), []), (m 62 (.nilCheck (t 61)), [1]), (m 63 (.field 42 (t 62)), [2]), (m 64 (.load none (t 63)), [3]), (m 65 (.load (some 2) (t 5)), []), (m 66 (.buildSlice 2 2 1 [(i 0), (i 0)] [(0, (t 65))]), [5]), (m 67 (.append 3 2 16 (t 64) (t 66)), [4, 6]), (m 68 (.nilCheck (t 60)), [0, 0, 1, 2, 3, 4, 5, 6, 7]), (m 69 (.field 42 (t 68)), [8, 0, 1, 2, 3, 4, 5, 6, 7]), (e (.store 1 (t 69) (t 67)), [9, 7, 7, 0, 1, 2, 3, 4, 5, 6, 7])] [(2, 0), (2, 1), (2, 2), (2, 3), (2, 4), (1, 5), (0, 6), (0, 7), (1, 8), (1, 9), (0, 10)] [0, 0, 2, 6, 14, 0, 32, 126, 255, 511, 1023]) (.skip)) <|
  .region [m 70 (.bin .add .num (t 52) (.c (i 1))), m 52 (.mov (t 70))]) <|
  .seq (.region [m 71 (.mov (t 0)), m 72 (.nilCheck (t 71)), m 73 (.field 21 (t 72)), e (.store 1 (t 73) (.c (i 3)))]) <|
  .seq (.region [m 74 (.mov (t 0)), m 75 (.nilCheck (t 74)), m 76 (.field 23 (t 75)), m 77 (.load none (t 76)), m 78 (.call false 38 [(t 77), (.c (.str [111, 112, 101, 110]))])]) <|
  .seq (.region [m 79 (.mov (t 0)), m 80 (.build [(i 0), (i 0), (i 0), (i 0), (b 0), (b 0), (b 0), (b 0), (b 0), (b 0), (b 0), (b 0), (b 0), (b 0), (b 0), (b 0), (b 0), (b 0), (b 0), (b 0), .nils, (.bool false), (i 0), .nils, (i 0), (i 0), (i 0), (b 0), (b 0), (b 0), (b 0), (b 0), (b 0), (b 0), (b 0), (b 0), (b 0), (b 0), (b 0), (b 0), (b 0), (b 0), (b 0), .nils, .nils, .nils, .nils, .nils, (i 0), (i 0), .nils, (i 0), (i 0)] [(0, 1, (.c (i 4)))]), m 81 (.call false 42 [(t 79), (t 80)])]) <|
  .seq (.dreg [(m 82 (.mov (t 0)), []), (m 83 (.nilCheck (t 82)), [0]), (m 84 (.field 23 (t 83)), [1]), (m 85 (.load none (t 84)), [2]), (m 86 (.mov (t 0)), []), (m 87 (.nilCheck (t 86)), [4]), (m 88 (.field 41 (t 87)), [5]), (m 89 (.load none (t 88)), [6]), (m 90 (.call false 41 [(t 85), (.c (.str [104, 111, 108, 100])), (t 89)]), [3, 7])] [(2, 0), (1, 1), (1, 2), (1, 3), (2, 4), (1, 5), (1, 6), (1, 7), (0, 8)] [0, 1, 3, 7, 0, 16, 48, 112, 255]) <|
  .dreg [(m 91 (.mov (t 0)), []), (m 92 (.nilCheck (t 91)), [0]), (m 93 (.field 23 (t 92)), [1]), (m 94 (.load none (t 93)), [2]), (m 95 (.mov (t 0)), []), (m 96 (.nilCheck (t 95)), [4]), (m 97 (.field 41 (t 96)), [5]), (m 98 (.load none (t 97)), [6]), (m 99 (.bin .quo .num (t 98) (.c (i 3))), [7]), (m 100 (.call false 41 [(t 94), (.c (.str [97, 108, 105, 118, 101])), (t 99)]), [3, 8])] [(2, 0), (1, 1), (1, 2), (1, 3), (2, 4), (1, 5), (1, 6), (1, 7), (2, 8), (0, 9)] [0, 1, 3, 7, 0, 16, 48, 112, 240, 511]
def vf44 : VFun := ⟨101, 4, vb44, [], false⟩
theorem cf44 : cFun Go.Proofs.Tryz.prog rawF false Go.Proofs.Tryz.f44 = some vf44 := by kernel_rfl
theorem T44 {args : List PV} {σ : VHeap} {Post : KP} (h : vrun Go.Proofs.Tryz.prog σ.length vb44 (argsEnv args) (σ ++ [dd, dd, dd, dd]) (vend vf44 Post)) (hl : args.length ≤ 101 := by exact Nat.le_of_ble_eq_true rfl) : T Go.Proofs.Tryz.prog 44 args σ Post := T.walkR Go.Proofs.Tryz.func44 cf44 hl rfl h

/-- (*vinery/timer.Timers).Tick -/
@[reducible] def vb45 : VC :=
  .seq (.region [m 2 (.newRow 0 1)]) <|
  .seq (.region [m 3 (.newRow 1 1)]) <|
  .seq (.seq (.region [m 8 (.mov (t 0)), m 9 (.nilCheck (t 8)), m 10 (.field 0 (t 9)), m 11 (.load none (t 10)), m 12 (.rangeMap 2 (t 11))]) <|
  .block 0 <| .loop <| .seq (.region [m 13 (.nextMap (t 12)), m 14 (.extract 0 (t 13))]) <|
  .seq (.cond (t 14) (.skip) (.exit 0)) <|
  .block 1 <| .seq (.region [m 15 (.entry (t 12)), m 16 (.extract 0 (t 15)), m 17 (.extract 1 (t 15)), m 4 (.mov (t 16)), m 5 (.mov (t 17))]) <|
  .seq (.seq (.region [m 18 (.mov (t 5)), m 19 (.bin .eql .num (t 18) (.c (i 1)))]) <|
  .cond (t 19) (.region [m 20 (.mov (t 3)), m 21 (.mov (t 4)), m 22 (.buildSlice 3 1 1 [(.str [])] [(0, (t 21))]), m 23 (.append 4 1 16 (t 20) (t 22)), m 3 (.mov (t 23))]) (.skip)) <|
  .region [m 24 (.mov (t 0)), m 25 (.nilCheck (t 24)), m 26 (.field 0 (t 25)), m 27 (.load none (t 26)), m 28 (.mov (t 4)), m 29 (.mov (t 5)), m 30 (.bin .sub .num (t 29) (.c (i 1))), e (.mapUpdate true (t 27) (t 28) (t 30))]) <|
  .seq (.seq (.region [m 31 (.mov (t 3)), m 32 (.len (t 31)), m 33 (.mov (.c (i 0)))]) <|
  .block 2 <| .loop <| .seq (.region [m 34 (.bin .lss .num (t 33) (t 32))]) <|
  .seq (.cond (t 34) (.skip) (.exit 2)) <|
  .seq (.block 3 <| .seq (.region [m 35 (.index 1 (t 31) (t 33)), m 36 (.load none (t 35)), m 7 (.mov (t 36))]) <|
  .region [m 37 (.mov (t 0)), m 38 (.nilCheck (t 37)), m 39 (.field 0 (t 38)), m 40 (.load none (t 39)), m 41 (.mov (t 7)), e (.delete true (t 40) (t 41))]) <|
  .region [m 42 (.bin .add .num (t 33) (.c (i 1))), m 33 (.mov (t 42))]) <|
  .seq (.region [m 43 (.mov (t 3)), m 44 (.call true 68 [(t 43)])]) <|
  .seq (.region [m 45 (.mov (t 3)), m 2 (.mov (t 45))]) <|
  .ret
def vf45 : VFun := ⟨46, 5, vb45, [.tmp 2], false⟩
theorem cf45 : cFun Go.Proofs.Tryz.prog rawF false Go.Proofs.Tryz.f45 = some vf45 := by kernel_rfl
theorem T45 {args : List PV} {σ : VHeap} {Post : KP} (h : vrun Go.Proofs.Tryz.prog σ.length vb45 (argsEnv args) (σ ++ [dd, dd, dd, dd, dd]) (vend vf45 Post)) (hl : args.length ≤ 46 := by exact Nat.le_of_ble_eq_true rfl) : T Go.Proofs.Tryz.prog 45 args σ Post := T.walkR Go.Proofs.Tryz.func45 cf45 hl rfl h

/-- slices.Contains[[]vinery/api.Family,vinery/api.Family] -/
@[reducible] def vb46 : VC :=
  .seq (.region [m 3 (.box 0 (t 1)), m 4 (.mov (.c (.bool false)))]) <|
  .seq (.region [m 5 (.mov (t 0)), m 6 (.load (some 2) (t 3)), m 7 (.call false 69 [(t 5), (t 6)]), m 8 (.bin .geq .num (t 7) (.c (i 0))), m 4 (.mov (t 8))]) <|
  .ret
def vf46 : VFun := ⟨9, 1, vb46, [.tmp 4], false⟩
theorem cf46 : cFun Go.Proofs.Tryz.prog rawF false Go.Proofs.Tryz.f46 = some vf46 := by kernel_rfl
theorem T46 {args : List PV} {σ : VHeap} {Post : KP} (h : belH σ.length σ → (∀ c, c ∈ args → bel σ.length c) → vrun Go.Proofs.Tryz.prog σ.length vb46 (argsEnv args) (σ ++ [dd]) (vend vf46 (TrimP σ.length Post))) (hl : args.length ≤ 9 := by exact Nat.le_of_ble_eq_true rfl) : T Go.Proofs.Tryz.prog 46 args σ Post := T.walk Go.Proofs.Tryz.func46 cf46 hl rfl h

/-- vinery/message.router -/
@[reducible] def vb47 : VC :=
  .seq (.region [m 1 (.box 0 (t 0)), m 2 (.mov (.c (.bool false)))]) <|
  .seq (.region [m 3 (.load (some 17) (t 1)), m 4 (.call false 19 [(t 3)]), m 5 (.mov (t 4)), g 6 5 true (.field 0 (t 1)), g 7 5 true (.load none (t 6)), g 8 5 true (.bin .eql .num (t 7) (.c (i 4))), m 9 (.pick (t 5) (t 8) (.c (.bool false))), m 10 (.mov (t 9)), g 11 10 true (.load (some 17) (t 1)), g 12 10 true (.build [(i 0), (b 0), (b 0), (b 0), (b 0), (b 0), (b 0), (b 0), (b 0), (b 0), (b 0), (b 0), (b 0), (b 0), (b 0), (b 0), (b 0)] [(0, 1, (.c (i 4)))]), g 13 10 true (.eqAgg [(.i .i64), (.i .u8), (.i .u8), (.i .u8), (.i .u8), (.i .u8), (.i .u8), (.i .u8), (.i .u8), (.i .u8), (.i .u8), (.i .u8), (.i .u8), (.i .u8), (.i .u8), (.i .u8), (.i .u8)] true (t 11) (t 12)), m 14 (.pick (t 10) (t 13) (.c (.bool false))), m 2 (.mov (t 14))]) <|
  .ret
def vf47 : VFun := ⟨15, 1, vb47, [.tmp 2], false⟩
theorem cf47 : cFun Go.Proofs.Tryz.prog rawF false Go.Proofs.Tryz.f47 = some vf47 := by kernel_rfl
theorem T47 {args : List PV} {σ : VHeap} {Post : KP} (h : belH σ.length σ → (∀ c, c ∈ args → bel σ.length c) → vrun Go.Proofs.Tryz.prog σ.length vb47 (argsEnv args) (σ ++ [dd]) (vend vf47 (TrimP σ.length Post))) (hl : args.length ≤ 15 := by exact Nat.le_of_ble_eq_true rfl) : T Go.Proofs.Tryz.prog 47 args σ Post := T.walk Go.Proofs.Tryz.func47 cf47 hl rfl h

/-- vinery/message.sameOpen -/
@[reducible] def vb58 : VC :=
  .seq (.region [m 2 (.box 0 (t 0)), m 3 (.box 1 (t 1)), m 4 (.mov (.c (.bool false)))]) <|
  .seq (.region [m 6 (.field 0 (t 2)), m 7 (.load none (t 6)), m 8 (.field 0 (t 3)), m 9 (.load none (t 8)), m 10 (.bin .eql .num (t 7) (t 9)), m 11 (.mov (t 10)), g 12 11 true (.field 1 (t 2)), g 13 11 true (.load none (t 12)), g 14 11 true (.field 1 (t 3)), g 15 11 true (.load none (t 14)), g 16 11 true (.bin .eql .num (t 13) (t 15)), m 17 (.pick (t 11) (t 16) (.c (.bool false))), m 18 (.mov (t 17)), g 19 18 true (.field 2 (t 2)), g 20 18 true (.load (some 17) (t 19)), g 21 18 true (.field 2 (t 3)), g 22 18 true (.load (some 17) (t 21)), g 23 18 true (.eqAgg [(.i .i64), (.i .u8), (.i .u8), (.i .u8), (.i .u8), (.i .u8), (.i .u8), (.i .u8), (.i .u8), (.i .u8), (.i .u8), (.i .u8), (.i .u8), (.i .u8), (.i .u8), (.i .u8), (.i .u8)] false (t 20) (t 22)), m 24 (.pick (t 18) (t 23) (.c (.bool false))), m 25 (.mov (t 24)), g 26 25 true (.field 20 (t 2)), g 27 25 true (.load none (t 26)), g 28 25 true (.field 20 (t 3)), g 29 25 true (.load none (t 28)), g 30 25 true (.bin .eql .bool (t 27) (t 29)), m 31 (.pick (t 25) (t 30) (.c (.bool false))), m 5 (.mov (t 31))]) <|
  .seq (.region [m 32 (.mov (t 5)), m 33 (.mov (t 32)), g 34 33 true (.field 19 (t 2)), g 35 33 true (.load none (t 34)), g 36 33 true (.field 19 (t 3)), g 37 33 true (.load none (t 36)), g 38 33 true (.call false 89 [(t 35), (t 37)]), m 39 (.pick (t 33) (t 38) (.c (.bool false))), m 4 (.mov (t 39))]) <|
  .ret
def vf58 : VFun := ⟨40, 2, vb58, [.tmp 4], false⟩
theorem cf58 : cFun Go.Proofs.Tryz.prog rawF false Go.Proofs.Tryz.f58 = some vf58 := by kernel_rfl
theorem T58 {args : List PV} {σ : VHeap} {Post : KP} (h : belH σ.length σ → (∀ c, c ∈ args → bel σ.length c) → vrun Go.Proofs.Tryz.prog σ.length vb58 (argsEnv args) (σ ++ [dd, dd]) (vend vf58 (TrimP σ.length Post))) (hl : args.length ≤ 40 := by exact Nat.le_of_ble_eq_true rfl) : T Go.Proofs.Tryz.prog 58 args σ Post := T.walk Go.Proofs.Tryz.func58 cf58 hl rfl h

/-- vinery/message.sameNote -/
@[reducible] def vb59 : VC :=
  .seq (.region [m 2 (.box 0 (t 0)), m 3 (.box 1 (t 1)), m 4 (.mov (.c (.bool false)))]) <|
  .seq (.region [m 5 (.field 0 (t 2)), m 6 (.load none (t 5)), m 7 (.field 0 (t 3)), m 8 (.load none (t 7)), m 9 (.bin .eql .num (t 6) (t 8)), m 10 (.mov (t 9)), g 11 10 true (.field 1 (t 2)), g 12 10 true (.load none (t 11)), g 13 10 true (.field 1 (t 3)), g 14 10 true (.load none (t 13)), g 15 10 true (.bin .eql .num (t 12) (t 14)), m 16 (.pick (t 10) (t 15) (.c (.bool false))), m 17 (.mov (t 16)), g 18 17 true (.field 2 (t 2)), g 19 17 true (.load none (t 18)), g 20 17 true (.field 2 (t 3)), g 21 17 true (.load none (t 20)), g 22 17 true (.call false 90 [(t 19), (t 21)]), m 23 (.pick (t 17) (t 22) (.c (.bool false))), m 4 (.mov (t 23))]) <|
  .ret
def vf59 : VFun := ⟨24, 2, vb59, [.tmp 4], false⟩
theorem cf59 : cFun Go.Proofs.Tryz.prog rawF false Go.Proofs.Tryz.f59 = some vf59 := by kernel_rfl
theorem T59 {args : List PV} {σ : VHeap} {Post : KP} (h : belH σ.length σ → (∀ c, c ∈ args → bel σ.length c) → vrun Go.Proofs.Tryz.prog σ.length vb59 (argsEnv args) (σ ++ [dd, dd]) (vend vf59 (TrimP σ.length Post))) (hl : args.length ≤ 24 := by exact Nat.le_of_ble_eq_true rfl) : T Go.Proofs.Tryz.prog 59 args σ Post := T.walk Go.Proofs.Tryz.func59 cf59 hl rfl h

/-- bytes.trimLeftByte -/
@[reducible] def vb60 : VC :=
  .seq (.region [m 4 (.newRow 0 1)]) <|
  .seq (.block 0 <| .loop <| .seq (.seq (.region [m 5 (.mov (t 0)), m 6 (.len (t 5)), m 7 (.bin .gtr .num (t 6) (.c (i 0))), m 8 (.mov (t 7)), g 9 8 true (.mov (t 0)), g 10 8 true (.index 1 (t 9) (.c (i 0))), g 11 8 true (.load none (t 10)), g 12 8 true (.mov (t 1)), g 13 8 true (.bin .eql .num (t 11) (t 12)), m 14 (.pick (t 8) (t 13) (.c (.bool false)))]) <|
  .cond (t 14) (.skip) (.exit 0)) <|
  .block 1 <| .region [m 15 (.mov (t 0)), m 16 (.slice 1 (t 15) (some (.c (i 1))) none), m 0 (.mov (t 16))]) <|
  .seq (.seq (.region [m 17 (.mov (t 0)), m 18 (.len (t 17)), m 19 (.bin .eql .num (t 18) (.c (i 0)))]) <|
  .cond (t 19) (.seq (.region [m 4 (.newRow 0 1)]) <|
  .ret) (.skip)) <|
  .seq (.region [m 20 (.mov (t 0)), m 4 (.mov (t 20))]) <|
  .ret
def vf60 : VFun := ⟨21, 1, vb60, [.tmp 4], false⟩
theorem cf60 : cFun Go.Proofs.Tryz.prog rawF false Go.Proofs.Tryz.f60 = some vf60 := by kernel_rfl
theorem T60 {args : List PV} {σ : VHeap} {Post : KP} (h : belH σ.length σ → (∀ c, c ∈ args → bel σ.length c) → vrun Go.Proofs.Tryz.prog σ.length vb60 (argsEnv args) (σ ++ [dd]) (vend vf60 (TrimP σ.length Post))) (hl : args.length ≤ 21 := by exact Nat.le_of_ble_eq_true rfl) : T Go.Proofs.Tryz.prog 60 args σ Post := T.walk Go.Proofs.Tryz.func60 cf60 hl rfl h

/-- bytes.trimRightByte -/
@[reducible] def vb61 : VC :=
  .seq (.region [m 4 (.newRow 0 1)]) <|
  .seq (.block 0 <| .loop <| .seq (.seq (.region [m 5 (.mov (t 0)), m 6 (.len (t 5)), m 7 (.bin .gtr .num (t 6) (.c (i 0))), m 8 (.mov (t 7)), g 9 8 true (.mov (t 0)), g 10 8 true (.mov (t 0)), g 11 8 true (.len (t 10)), g 12 8 true (.bin .sub .num (t 11) (.c (i 1))), g 13 8 true (.index 1 (t 9) (t 12)), g 14 8 true (.load none (t 13)), g 15 8 true (.mov (t 1)), g 16 8 true (.bin .eql .num (t 14) (t 15)), m 17 (.pick (t 8) (t 16) (.c (.bool false)))]) <|
  .cond (t 17) (.skip) (.exit 0)) <|
  .block 1 <| .region [m 18 (.mov (t 0)), m 19 (.mov (t 0)), m 20 (.len (t 19)), m 21 (.bin .sub .num (t 20) (.c (i 1))), m 22 (.slice 1 (t 18) none (some (t 21))), m 0 (.mov (t 22))]) <|
  .seq (.region [m 23 (.mov (t 0)), m 4 (.mov (t 23))]) <|
  .ret
def vf61 : VFun := ⟨24, 1, vb61, [.tmp 4], false⟩
theorem cf61 : cFun Go.Proofs.Tryz.prog rawF false Go.Proofs.Tryz.f61 = some vf61 := by kernel_rfl
theorem T61 {args : List PV} {σ : VHeap} {Post : KP} (h : belH σ.length σ → (∀ c, c ∈ args → bel σ.length c) → vrun Go.Proofs.Tryz.prog σ.length vb61 (argsEnv args) (σ ++ [dd]) (vend vf61 (TrimP σ.length Post))) (hl : args.length ≤ 24 := by exact Nat.le_of_ble_eq_true rfl) : T Go.Proofs.Tryz.prog 61 args σ Post := T.walk Go.Proofs.Tryz.func61 cf61 hl rfl h

/-- (*vinery/timer.Timers).Clear -/
@[reducible] def vb67 : VC :=
  .region [m 2 (.mov (t 0)), m 3 (.nilCheck (t 2)), m 4 (.field 0 (t 3)), m 5 (.load none (t 4)), e (.clearMap (t 5))]
def vf67 : VFun := ⟨6, 0, vb67, [], false⟩
theorem cf67 : cFun Go.Proofs.Tryz.prog rawF false Go.Proofs.Tryz.f67 = some vf67 := by kernel_rfl
theorem T67 {args : List PV} {σ : VHeap} {Post : KP} (h : vrun Go.Proofs.Tryz.prog σ.length vb67 (argsEnv args) (σ ++ []) (vend vf67 Post)) (hl : args.length ≤ 6 := by exact Nat.le_of_ble_eq_true rfl) : T Go.Proofs.Tryz.prog 67 args σ Post := T.walkR Go.Proofs.Tryz.func67 cf67 hl rfl h

/-- slices.Index[[]vinery/api.Family,vinery/api.Family] -/
@[reducible] def vb69 : VC :=
  .seq (.region [m 3 (.box 0 (t 1)), m 4 (.mov (.c (i 0)))]) <|
  .seq (.seq (.region [m 6 (.mov (t 0)), m 7 (.len (t 6)), m 8 (.mov (.c (i 0)))]) <|
  .block 0 <| .loop <| .seq (.region [m 9 (.bin .lss .num (t 8) (t 7))]) <|
  .seq (.cond (t 9) (.skip) (.exit 0)) <|
  .seq (.block 1 <| .seq (.region [m 10 (.mov (t 8)), m 5 (.mov (t 10))]) <|
  .seq (.dreg [(m 11 (.load (some 2) (t 3)), []), (m 12 (.mov (t 0)), []), (m 13 (.mov (t 5)), []), (m 14 (.index 2 (t 12) (t 13)), [1, 2]), (m 15 (.load (some 2) (t 14)), [3]), (m 16 (.eqAgg [(.i .i64), (.i .i64)] false (t 11) (t 15)), [0, 4])] [(1, 0), (2, 1), (2, 2), (1, 3), (1, 4), (2, 5)] [0, 0, 0, 6, 14, 31]) <|
  .cond (t 16) (.seq (.region [m 17 (.mov (t 5)), m 4 (.mov (t 17))]) <|
  .ret) (.skip)) <|
  .region [m 18 (.bin .add .num (t 8) (.c (i 1))), m 8 (.mov (t 18))]) <|
  .seq (.region [m 4 (.mov (.c (i (-1))))]) <|
  .ret
def vf69 : VFun := ⟨19, 1, vb69, [.tmp 4], false⟩
theorem cf69 : cFun Go.Proofs.Tryz.prog rawF false Go.Proofs.Tryz.f69 = some vf69 := by kernel_rfl
theorem T69 {args : List PV} {σ : VHeap} {Post : KP} (h : belH σ.length σ → (∀ c, c ∈ args → bel σ.length c) → vrun Go.Proofs.Tryz.prog σ.length vb69 (argsEnv args) (σ ++ [dd]) (vend vf69 (TrimP σ.length Post))) (hl : args.length ≤ 19 := by exact Nat.le_of_ble_eq_true rfl) : T Go.Proofs.Tryz.prog 69 args σ Post := T.walk Go.Proofs.Tryz.func69 cf69 hl rfl h

/-- slices.Equal[[]vinery/api.Family,vinery/api.Family] -/
@[reducible] def vb89 : VC :=
  .seq (.region [m 4 (.mov (.c (.bool false)))]) <|
  .seq (.seq (.region [m 6 (.mov (t 0)), m 7 (.len (t 6)), m 8 (.mov (t 1)), m 9 (.len (t 8)), m 10 (.bin .neq .num (t 7) (t 9))]) <|
  .cond (t 10) (.seq (.region [m 4 (.mov (.c (.bool false)))]) <|
  .ret) (.skip)) <|
  .seq (.seq (.region [m 11 (.mov (t 0)), m 12 (.len (t 11)), m 13 (.mov (.c (i 0)))]) <|
  .block 0 <| .loop <| .seq (.region [m 14 (.bin .lss .num (t 13) (t 12))]) <|
  .seq (.cond (t 14) (.skip) (.exit 0)) <|
  .seq (.block 1 <| .seq (.region [m 15 (.mov (t 13)), m 5 (.mov (t 15))]) <|
  .seq (.dreg [(m 16 (.mov (t 0)), []), (m 17 (.mov (t 5)), []), (m 18 (.index 2 (t 16) (t 17)), [0, 1]), (m 19 (.load (some 2) (t 18)), [2]), (m 20 (.mov (t 1)), []), (m 21 (.mov (t 5)), []), (m 22 (.index 2 (t 20) (t 21)), [4, 5]), (m 23 (.load (some 2) (t 22)), [6]), (m 24 (.eqAgg [(.i .i64), (.i .i64)] true (t 19) (t 23)), [3, 7])] [(2, 0), (2, 1), (1, 2), (1, 3), (2, 4), (2, 5), (1, 6), (1, 7), (2, 8)] [0, 0, 3, 7, 0, 0, 48, 112, 255]) <|
  .cond (t 24) (.seq (.region [m 4 (.mov (.c (.bool false)))]) <|
  .ret) (.skip)) <|
  .region [m 25 (.bin .add .num (t 13) (.c (i 1))), m 13 (.mov (t 25))]) <|
  .seq (.region [m 4 (.mov (.c (.bool true)))]) <|
  .ret
def vf89 : VFun := ⟨26, 0, vb89, [.tmp 4], false⟩
theorem cf89 : cFun Go.Proofs.Tryz.prog rawF false Go.Proofs.Tryz.f89 = some vf89 := by kernel_rfl
theorem T89 {args : List PV} {σ : VHeap} {Post : KP} (h : belH σ.length σ → (∀ c, c ∈ args → bel σ.length c) → vrun Go.Proofs.Tryz.prog σ.length vb89 (argsEnv args) (σ ++ []) (vend vf89 (TrimP σ.length Post))) (hl : args.length ≤ 26 := by exact Nat.le_of_ble_eq_true rfl) : T Go.Proofs.Tryz.prog 89 args σ Post := T.walk Go.Proofs.Tryz.func89 cf89 hl rfl h

/-- bytes.Equal -/
@[reducible] def vb90 : VC :=
  .seq (.region [m 4 (.mov (.c (.bool false)))]) <|
  .seq (.region [m 5 (.mov (t 0)), m 6 (.b2s (t 5)), m 7 (.mov (t 1)), m 8 (.b2s (t 7)), m 9 (.bin .eql .num (t 6) (t 8)), m 4 (.mov (t 9))]) <|
  .ret
def vf90 : VFun := ⟨10, 0, vb90, [.tmp 4], false⟩
theorem cf90 : cFun Go.Proofs.Tryz.prog rawF false Go.Proofs.Tryz.f90 = some vf90 := by kernel_rfl
theorem T90 {args : List PV} {σ : VHeap} {Post : KP} (h : belH σ.length σ → (∀ c, c ∈ args → bel σ.length c) → vrun Go.Proofs.Tryz.prog σ.length vb90 (argsEnv args) (σ ++ []) (vend vf90 (TrimP σ.length Post))) (hl : args.length ≤ 10 := by exact Nat.le_of_ble_eq_true rfl) : T Go.Proofs.Tryz.prog 90 args σ Post := T.walk Go.Proofs.Tryz.func90 cf90 hl rfl h

end Go.Proofs.YtocnjlfnapefjaaGreatDoor
