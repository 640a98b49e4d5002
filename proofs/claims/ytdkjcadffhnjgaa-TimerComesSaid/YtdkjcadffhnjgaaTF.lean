/- Functions of the program, in the small language. -/
import Derived.Test.YtdkjcadffhnjgaaV15
import Derived.Test.YtdkjcadffhnjgaaProg
namespace Go.Proofs.Ytdkjcadffhnjgaa
open Go Go.V
def rawF (f : FuncId) : Bool := f == 24

/-- vinery/vinerylaw13.TimerAgain -/
def vb3 : VC :=
  .seq (.region [⟨(some 6), .mov (.c (.bool false)), none⟩]) <|
  .seq (.region [⟨(some 14), .call false 7 [], none⟩,
    ⟨(some 7), .mov (.t 14), none⟩]) <|
  .seq (.region [⟨(some 15), .call false 8 [], none⟩,
    ⟨(some 8), .mov (.t 15), none⟩]) <|
  .seq (.region [⟨(some 16), .mov (.t 0), none⟩,
    ⟨(some 17), .bin .and .num (.t 16) (.c (.int .i64 31)), none⟩,
    ⟨(some 18), .bin .add .num (.c (.int .i64 1)) (.t 17), none⟩,
    ⟨(some 9), .mov (.t 18), none⟩]) <|
  .seq (.region [⟨(some 19), .mov (.t 1), none⟩,
    ⟨(some 20), .bin .and .num (.t 19) (.c (.int .i64 31)), none⟩,
    ⟨(some 21), .bin .add .num (.c (.int .i64 1)) (.t 20), none⟩,
    ⟨(some 10), .mov (.t 21), none⟩]) <|
  .seq (.seq (.region [⟨(some 22), .mov (.t 7), none⟩,
    ⟨(some 23), .un .not (.t 22), none⟩,
    ⟨(some 24), .mov (.t 23), none⟩,
    ⟨(some 25), .mov (.t 8), some (24, false)⟩,
    ⟨(some 26), .bin .eql .ptr (.t 25) (.c .nilp), some (24, false)⟩,
    ⟨(some 27), .pick (.t 24) (.c (.bool true)) (.t 26), none⟩,
    ⟨(some 28), .mov (.t 27), none⟩,
    ⟨(some 29), .mov (.t 8), some (28, false)⟩,
    ⟨(some 30), .mov (.t 9), some (28, false)⟩,
    ⟨(some 31), .call false 9 [(.t 29), (.c (.str [97])), (.t 30)], some (28, false)⟩,
    ⟨(some 32), .bin .neq .num (.t 31) (.c (.int .i64 0)), some (28, false)⟩,
    ⟨(some 33), .pick (.t 28) (.c (.bool true)) (.t 32), none⟩]) <|
  .cond (.t 33)
    (.seq (.region [⟨(some 6), .mov (.c (.bool false)), none⟩]) <|
    .ret)
    (.skip)) <|
  .seq (.seq (.region [⟨(some 11), .mov (.c (.int .i64 1)), none⟩]) <|
  .block 0 <|
    .loop <|
      .seq (.seq (.region [⟨(some 34), .mov (.t 11), none⟩,
        ⟨(some 35), .mov (.t 9), none⟩,
        ⟨(some 36), .bin .lss .num (.t 34) (.t 35), none⟩]) <|
      .cond (.t 36)
        (.skip)
        (.exit 0)) <|
      .seq (.block 1 <|
        .seq (.region [⟨(some 39), .mov (.t 8), none⟩,
          ⟨(some 40), .call false 10 [(.t 39)], none⟩,
          ⟨(some 41), .len (.t 40), none⟩,
          ⟨(some 42), .bin .neq .num (.t 41) (.c (.int .i64 0)), none⟩]) <|
        .cond (.t 42)
          (.seq (.region [⟨(some 6), .mov (.c (.bool false)), none⟩]) <|
          .ret)
          (.skip)) <|
      .region [⟨(some 37), .mov (.t 11), none⟩,
        ⟨(some 38), .bin .add .num (.t 37) (.c (.int .i64 1)), none⟩,
        ⟨(some 11), .mov (.t 38), none⟩]) <|
  .seq (.seq (.region [⟨(some 43), .mov (.t 2), none⟩]) <|
  .cond (.t 43)
    (.seq (.region [⟨(some 44), .mov (.t 8), none⟩,
      ⟨(some 45), .call false 11 [(.t 44), (.c (.str [97]))], none⟩,
      ⟨(some 46), .mov (.t 45), none⟩,
      ⟨(some 47), .mov (.t 8), some (46, true)⟩,
      ⟨(some 48), .call false 11 [(.t 47), (.c (.str [97]))], some (46, true)⟩,
      ⟨(some 49), .un .not (.t 48), some (46, true)⟩,
      ⟨(some 50), .pick (.t 46) (.t 49) (.c (.bool false)), none⟩,
      ⟨(some 51), .mov (.t 50), none⟩,
      ⟨(some 52), .mov (.t 8), some (51, true)⟩,
      ⟨(some 53), .call false 10 [(.t 52)], some (51, true)⟩,
      ⟨(some 54), .len (.t 53), some (51, true)⟩,
      ⟨(some 55), .bin .eql .num (.t 54) (.c (.int .i64 0)), some (51, true)⟩,
      ⟨(some 56), .pick (.t 51) (.t 55) (.c (.bool false)), none⟩,
      ⟨(some 6), .mov (.t 56), none⟩]) <|
    .ret)
    (.skip)) <|
  .seq (.seq (.region [⟨(some 57), .mov (.t 8), none⟩,
    ⟨(some 58), .mov (.t 10), none⟩,
    ⟨(some 59), .call false 9 [(.t 57), (.c (.str [97])), (.t 58)], none⟩,
    ⟨(some 60), .bin .neq .num (.t 59) (.c (.int .i64 0)), none⟩]) <|
  .cond (.t 60)
    (.seq (.region [⟨(some 6), .mov (.c (.bool false)), none⟩]) <|
    .ret)
    (.skip)) <|
  .seq (.seq (.region [⟨(some 12), .mov (.c (.int .i64 1)), none⟩]) <|
  .block 2 <|
    .loop <|
      .seq (.seq (.region [⟨(some 61), .mov (.t 12), none⟩,
        ⟨(some 62), .mov (.t 10), none⟩,
        ⟨(some 63), .bin .lss .num (.t 61) (.t 62), none⟩]) <|
      .cond (.t 63)
        (.skip)
        (.exit 2)) <|
      .seq (.block 3 <|
        .seq (.region [⟨(some 66), .mov (.t 8), none⟩,
          ⟨(some 67), .call false 10 [(.t 66)], none⟩,
          ⟨(some 68), .len (.t 67), none⟩,
          ⟨(some 69), .bin .neq .num (.t 68) (.c (.int .i64 0)), none⟩]) <|
        .cond (.t 69)
          (.seq (.region [⟨(some 6), .mov (.c (.bool false)), none⟩]) <|
          .ret)
          (.skip)) <|
      .region [⟨(some 64), .mov (.t 12), none⟩,
        ⟨(some 65), .bin .add .num (.t 64) (.c (.int .i64 1)), none⟩,
        ⟨(some 12), .mov (.t 65), none⟩]) <|
  .seq (.region [⟨(some 70), .mov (.t 8), none⟩,
    ⟨(some 71), .call false 10 [(.t 70)], none⟩,
    ⟨(some 13), .mov (.t 71), none⟩]) <|
  .seq (.region [⟨(some 72), .mov (.t 13), none⟩,
    ⟨(some 73), .len (.t 72), none⟩,
    ⟨(some 74), .bin .eql .num (.t 73) (.c (.int .i64 1)), none⟩,
    ⟨(some 75), .mov (.t 74), none⟩,
    ⟨(some 76), .mov (.t 13), some (75, true)⟩,
    ⟨(some 77), .index 1 (.t 76) (.c (.int .i64 0)), some (75, true)⟩,
    ⟨(some 78), .load none (.t 77), some (75, true)⟩,
    ⟨(some 79), .bin .eql .num (.t 78) (.c (.str [97])), some (75, true)⟩,
    ⟨(some 80), .pick (.t 75) (.t 79) (.c (.bool false)), none⟩,
    ⟨(some 81), .mov (.t 80), none⟩,
    ⟨(some 82), .mov (.t 8), some (81, true)⟩,
    ⟨(some 83), .call false 10 [(.t 82)], some (81, true)⟩,
    ⟨(some 84), .len (.t 83), some (81, true)⟩,
    ⟨(some 85), .bin .eql .num (.t 84) (.c (.int .i64 0)), some (81, true)⟩,
    ⟨(some 86), .pick (.t 81) (.t 85) (.c (.bool false)), none⟩,
    ⟨(some 6), .mov (.t 86), none⟩]) <|
  .ret
def vf3 : VFun := ⟨87, 0, vb3, [.tmp 6], false⟩
theorem cf3 : cFun Go.Proofs.Try.prog rawF false Go.Proofs.Try.f3 = some vf3 := by kernel_rfl
theorem T3 {args : List PV} {σ : VHeap} {Post : KP} (h : vfun Go.Proofs.Try.prog vf3 args σ Post) : T Go.Proofs.Try.prog 3 args σ Post := T_of Go.Proofs.Try.func3 cf3 h

/-- vinery/vinerylaw13.TimerComes -/
def vb5_1 : VC :=
  .seq (.block 1 <|
    .region [⟨(some 38), .mov (.t 10), none⟩,
      ⟨(some 39), .mov (.t 0), none⟩,
      ⟨(some 40), .mov (.t 11), none⟩,
      ⟨(some 41), .index 3 (.t 39) (.t 40), none⟩,
      ⟨(some 42), .load (some 3) (.t 41), none⟩,
      ⟨(some 43), .call false 23 [(.t 38), (.t 42)], none⟩]) <|
  .region [⟨(some 36), .mov (.t 11), none⟩,
    ⟨(some 37), .bin .add .num (.t 36) (.c (.int .i64 1)), none⟩,
    ⟨(some 11), .mov (.t 37), none⟩]
def vb5_2 : VC :=
  .seq (.block 5 <|
    .region [⟨(some 96), .mov (.t 15), none⟩,
      ⟨(some 97), .mov (.t 96), none⟩,
      ⟨(some 98), .mov (.t 16), some (97, false)⟩,
      ⟨(some 99), .mov (.t 17), some (97, false)⟩,
      ⟨(some 100), .index 1 (.t 98) (.t 99), some (97, false)⟩,
      ⟨(some 101), .load none (.t 100), some (97, false)⟩,
      ⟨(some 102), .mov (.t 1), some (97, false)⟩,
      ⟨(some 103), .bin .eql .num (.t 101) (.t 102), some (97, false)⟩,
      ⟨(some 104), .pick (.t 97) (.c (.bool true)) (.t 103), none⟩,
      ⟨(some 15), .mov (.t 104), none⟩]) <|
  .region [⟨(some 94), .mov (.t 17), none⟩,
    ⟨(some 95), .bin .add .num (.t 94) (.c (.int .i64 1)), none⟩,
    ⟨(some 17), .mov (.t 95), none⟩]
def vb5_3 : VC :=
  .seq (.region [⟨(some 105), .mov (.t 12), none⟩,
    ⟨(some 106), .bin .gtr .num (.t 105) (.c (.int .i64 0)), none⟩]) <|
  .cond (.t 106)
    (.seq (.region [⟨(some 107), .mov (.t 12), none⟩,
      ⟨(some 108), .bin .sub .num (.t 107) (.c (.int .i64 1)), none⟩,
      ⟨(some 12), .mov (.t 108), none⟩]) <|
    .seq (.region [⟨(some 109), .mov (.t 15), none⟩,
      ⟨(some 110), .mov (.t 12), none⟩,
      ⟨(some 111), .bin .eql .num (.t 110) (.c (.int .i64 0)), none⟩,
      ⟨(some 112), .bin .neq .bool (.t 109) (.t 111), none⟩]) <|
    .cond (.t 112)
      (.seq (.region [⟨(some 8), .mov (.c (.bool false)), none⟩]) <|
      .ret)
      (.skip))
    (.seq (.region [⟨(some 113), .mov (.t 15), none⟩]) <|
    .cond (.t 113)
      (.seq (.region [⟨(some 8), .mov (.c (.bool false)), none⟩]) <|
      .ret)
      (.skip))
def vb5_4 : VC :=
  .seq (.region [⟨(some 118), .mov (.t 10), none⟩,
    ⟨(some 119), .mov (.t 1), none⟩,
    ⟨(some 120), .call false 15 [(.t 118), (.t 119)], none⟩,
    ⟨(some 117), .mov (.t 120), none⟩,
    ⟨(some 121), .extract 0 (.t 117), none⟩,
    ⟨(some 122), .extract 1 (.t 117), none⟩,
    ⟨(some 18), .mov (.t 121), none⟩,
    ⟨(some 19), .mov (.t 122), none⟩]) <|
  .seq (.region [⟨(some 123), .mov (.t 18), none⟩,
    ⟨(some 124), .mov (.t 12), none⟩,
    ⟨(some 125), .bin .neq .num (.t 123) (.t 124), none⟩,
    ⟨(some 126), .mov (.t 125), none⟩,
    ⟨(some 127), .mov (.t 19), some (126, false)⟩,
    ⟨(some 128), .mov (.t 12), some (126, false)⟩,
    ⟨(some 129), .bin .gtr .num (.t 128) (.c (.int .i64 0)), some (126, false)⟩,
    ⟨(some 130), .bin .neq .bool (.t 127) (.t 129), some (126, false)⟩,
    ⟨(some 131), .pick (.t 126) (.c (.bool true)) (.t 130), none⟩]) <|
  .cond (.t 131)
    (.seq (.region [⟨(some 8), .mov (.c (.bool false)), none⟩]) <|
    .ret)
    (.skip)
def vb5_5 : VC :=
  .seq (.region [⟨(some 15), .mov (.c (.bool false)), none⟩]) <|
  .seq (.seq (.region [⟨(some 85), .field 0 (.t 14), none⟩,
    ⟨(some 86), .load none (.t 85), none⟩,
    ⟨(some 87), .bin .eql .num (.t 86) (.c (.int .i64 3)), none⟩]) <|
  .cond (.t 87)
    (.seq (.region [⟨(some 88), .mov (.t 10), none⟩,
      ⟨(some 89), .call false 10 [(.t 88)], none⟩,
      ⟨(some 16), .mov (.t 89), none⟩]) <|
    .seq (.seq (.region [⟨(some 17), .mov (.c (.int .i64 0)), none⟩]) <|
    .block 4 <|
      .loop <|
        .seq (.seq (.region [⟨(some 90), .mov (.t 17), none⟩,
          ⟨(some 91), .mov (.t 16), none⟩,
          ⟨(some 92), .len (.t 91), none⟩,
          ⟨(some 93), .bin .lss .num (.t 90) (.t 92), none⟩]) <|
        .cond (.t 93)
          (.skip)
          (.exit 4)) <|
        vb5_2) <|
    vb5_3)
    (.region [⟨(some 114), .mov (.t 10), none⟩,
      ⟨(some 115), .load (some 3) (.t 14), none⟩,
      ⟨(some 116), .call false 23 [(.t 114), (.t 115)], none⟩])) <|
  vb5_4
def vb5_6 : VC :=
  .region [⟨(some 65), .mov (.t 13), none⟩,
    ⟨(some 66), .bin .add .num (.t 65) (.c (.int .i64 1)), none⟩,
    ⟨(some 13), .mov (.t 66), none⟩]
def vb5_7 : VC :=
  .seq (.block 3 <|
    .seq (.region [⟨(some 67), .mov (.t 3), none⟩,
      ⟨(some 68), .mov (.t 13), none⟩,
      ⟨(some 69), .index 3 (.t 67) (.t 68), none⟩,
      ⟨(some 70), .load (some 3) (.t 69), none⟩,
      ⟨(some 14), .alloc 0 [(.int .i64 0), (.str []), (.int .i64 0)], none⟩,
      ⟨none, .store 3 (.t 14) (.t 70), none⟩]) <|
    .seq (.seq (.region [⟨(some 71), .field 1 (.t 14), none⟩,
      ⟨(some 72), .load none (.t 71), none⟩,
      ⟨(some 73), .mov (.t 1), none⟩,
      ⟨(some 74), .bin .eql .num (.t 72) (.t 73), none⟩,
      ⟨(some 75), .mov (.t 74), none⟩,
      ⟨(some 76), .field 0 (.t 14), some (75, true)⟩,
      ⟨(some 77), .load none (.t 76), some (75, true)⟩,
      ⟨(some 78), .bin .lss .num (.t 77) (.c (.int .i64 2)), some (75, true)⟩,
      ⟨(some 79), .pick (.t 75) (.t 78) (.c (.bool false)), none⟩,
      ⟨(some 80), .mov (.t 79), none⟩,
      ⟨(some 81), .field 0 (.t 14), some (80, false)⟩,
      ⟨(some 82), .load none (.t 81), some (80, false)⟩,
      ⟨(some 83), .bin .eql .num (.t 82) (.c (.int .i64 5)), some (80, false)⟩,
      ⟨(some 84), .pick (.t 80) (.c (.bool true)) (.t 83), none⟩]) <|
    .cond (.t 84)
      (.exit 3)
      (.skip)) <|
    vb5_5) <|
  vb5_6
def vb5_8 : VC :=
  .seq (.region [⟨(some 8), .mov (.c (.bool true)), none⟩]) <|
  .ret
def vb5_9 : VC :=
  .seq (.region [⟨(some 56), .mov (.t 2), none⟩,
    ⟨(some 12), .mov (.t 56), none⟩]) <|
  .seq (.seq (.region [⟨(some 13), .mov (.c (.int .i64 0)), none⟩]) <|
  .block 2 <|
    .loop <|
      .seq (.seq (.region [⟨(some 57), .mov (.t 13), none⟩,
        ⟨(some 58), .mov (.t 3), none⟩,
        ⟨(some 59), .len (.t 58), none⟩,
        ⟨(some 60), .bin .lss .num (.t 57) (.t 59), none⟩,
        ⟨(some 61), .mov (.t 60), none⟩,
        ⟨(some 62), .mov (.t 13), some (61, true)⟩,
        ⟨(some 63), .bin .lss .num (.t 62) (.c (.int .i64 100)), some (61, true)⟩,
        ⟨(some 64), .pick (.t 61) (.t 63) (.c (.bool false)), none⟩]) <|
      .cond (.t 64)
        (.skip)
        (.exit 2)) <|
      vb5_7) <|
  vb5_8
def vb5_10 : VC :=
  .seq (.seq (.region [⟨(some 44), .mov (.t 10), none⟩,
    ⟨(some 45), .mov (.t 1), none⟩,
    ⟨(some 46), .mov (.t 2), none⟩,
    ⟨(some 47), .call false 9 [(.t 44), (.t 45), (.t 46)], none⟩,
    ⟨(some 48), .bin .neq .num (.t 47) (.c (.int .i64 0)), none⟩]) <|
  .cond (.t 48)
    (.seq (.region [⟨(some 49), .mov (.t 2), none⟩,
      ⟨(some 50), .bin .lss .num (.t 49) (.c (.int .i64 1)), none⟩,
      ⟨(some 51), .mov (.t 50), none⟩,
      ⟨(some 52), .mov (.t 0), some (51, false)⟩,
      ⟨(some 53), .len (.t 52), some (51, false)⟩,
      ⟨(some 54), .bin .geq .num (.t 53) (.c (.int .i64 32)), some (51, false)⟩,
      ⟨(some 55), .pick (.t 51) (.c (.bool true)) (.t 54), none⟩,
      ⟨(some 8), .mov (.t 55), none⟩]) <|
    .ret)
    (.skip)) <|
  vb5_9
def vb5_11 : VC :=
  .seq (.seq (.region [⟨(some 11), .mov (.c (.int .i64 0)), none⟩]) <|
  .block 0 <|
    .loop <|
      .seq (.seq (.region [⟨(some 28), .mov (.t 11), none⟩,
        ⟨(some 29), .mov (.t 0), none⟩,
        ⟨(some 30), .len (.t 29), none⟩,
        ⟨(some 31), .bin .lss .num (.t 28) (.t 30), none⟩,
        ⟨(some 32), .mov (.t 31), none⟩,
        ⟨(some 33), .mov (.t 11), some (32, true)⟩,
        ⟨(some 34), .bin .lss .num (.t 33) (.c (.int .i64 60)), some (32, true)⟩,
        ⟨(some 35), .pick (.t 32) (.t 34) (.c (.bool false)), none⟩]) <|
      .cond (.t 35)
        (.skip)
        (.exit 0)) <|
      vb5_1) <|
  vb5_10
def vb5 : VC :=
  .seq (.region [⟨(some 8), .mov (.c (.bool false)), none⟩]) <|
  .seq (.region [⟨(some 20), .call false 7 [], none⟩,
    ⟨(some 9), .mov (.t 20), none⟩]) <|
  .seq (.region [⟨(some 21), .call false 8 [], none⟩,
    ⟨(some 10), .mov (.t 21), none⟩]) <|
  .seq (.seq (.region [⟨(some 22), .mov (.t 9), none⟩,
    ⟨(some 23), .un .not (.t 22), none⟩,
    ⟨(some 24), .mov (.t 23), none⟩,
    ⟨(some 25), .mov (.t 10), some (24, false)⟩,
    ⟨(some 26), .bin .eql .ptr (.t 25) (.c .nilp), some (24, false)⟩,
    ⟨(some 27), .pick (.t 24) (.c (.bool true)) (.t 26), none⟩]) <|
  .cond (.t 27)
    (.seq (.region [⟨(some 8), .mov (.c (.bool false)), none⟩]) <|
    .ret)
    (.skip)) <|
  vb5_11
def vf5 : VFun := ⟨132, 1, vb5, [.tmp 8], false⟩
theorem cf5 : cFun Go.Proofs.Try.prog rawF false Go.Proofs.Try.f5 = some vf5 := by kernel_rfl
theorem T5 {args : List PV} {σ : VHeap} {Post : KP} (h : vfun Go.Proofs.Try.prog vf5 args σ Post) : T Go.Proofs.Try.prog 5 args σ Post := T_of Go.Proofs.Try.func5 cf5 h

/-- vinery/vinerylaw13.TimerFirst -/
def vb6_1 : VC :=
  .seq (.region [⟨(some 63), .mov (.t 6), none⟩,
    ⟨(some 64), .bin .gtr .num (.t 63) (.c (.int .i64 100)), none⟩,
    ⟨(some 65), .mov (.t 64), none⟩,
    ⟨(some 66), .mov (.t 4), some (65, false)⟩,
    ⟨(some 67), .call false 10 [(.t 66)], some (65, false)⟩,
    ⟨(some 68), .len (.t 67), some (65, false)⟩,
    ⟨(some 69), .bin .gtr .num (.t 68) (.c (.int .i64 0)), some (65, false)⟩,
    ⟨(some 70), .pick (.t 65) (.c (.bool true)) (.t 69), none⟩,
    ⟨(some 2), .mov (.t 70), none⟩]) <|
  .ret
def vb6_2 : VC :=
  .seq (.region [⟨(some 34), .mov (.t 4), none⟩,
    ⟨(some 35), .call false 21 [(.t 34)], none⟩,
    ⟨(some 33), .mov (.t 35), none⟩,
    ⟨(some 36), .extract 0 (.t 33), none⟩,
    ⟨(some 37), .extract 1 (.t 33), none⟩,
    ⟨(some 6), .mov (.t 36), none⟩,
    ⟨(some 7), .mov (.t 37), none⟩]) <|
  .seq (.seq (.region [⟨(some 38), .mov (.t 7), none⟩,
    ⟨(some 39), .un .not (.t 38), none⟩]) <|
  .cond (.t 39)
    (.seq (.region [⟨(some 40), .mov (.t 6), none⟩,
      ⟨(some 41), .bin .eql .num (.t 40) (.c (.int .i64 0)), none⟩,
      ⟨(some 42), .mov (.t 41), none⟩,
      ⟨(some 43), .mov (.t 4), some (42, true)⟩,
      ⟨(some 44), .call false 10 [(.t 43)], some (42, true)⟩,
      ⟨(some 45), .len (.t 44), some (42, true)⟩,
      ⟨(some 46), .bin .eql .num (.t 45) (.c (.int .i64 0)), some (42, true)⟩,
      ⟨(some 47), .pick (.t 42) (.t 46) (.c (.bool false)), none⟩,
      ⟨(some 2), .mov (.t 47), none⟩]) <|
    .ret)
    (.skip)) <|
  .seq (.seq (.region [⟨(some 48), .mov (.t 6), none⟩,
    ⟨(some 49), .bin .lss .num (.t 48) (.c (.int .i64 1)), none⟩]) <|
  .cond (.t 49)
    (.seq (.region [⟨(some 2), .mov (.c (.bool false)), none⟩]) <|
    .ret)
    (.skip)) <|
  .seq (.seq (.region [⟨(some 8), .mov (.c (.int .i64 1)), none⟩]) <|
  .block 2 <|
    .loop <|
      .seq (.seq (.region [⟨(some 50), .mov (.t 8), none⟩,
        ⟨(some 51), .mov (.t 6), none⟩,
        ⟨(some 52), .bin .lss .num (.t 50) (.t 51), none⟩,
        ⟨(some 53), .mov (.t 52), none⟩,
        ⟨(some 54), .mov (.t 8), some (53, true)⟩,
        ⟨(some 55), .bin .lss .num (.t 54) (.c (.int .i64 100)), some (53, true)⟩,
        ⟨(some 56), .pick (.t 53) (.t 55) (.c (.bool false)), none⟩]) <|
      .cond (.t 56)
        (.skip)
        (.exit 2)) <|
      .seq (.block 3 <|
        .seq (.region [⟨(some 59), .mov (.t 4), none⟩,
          ⟨(some 60), .call false 10 [(.t 59)], none⟩,
          ⟨(some 61), .len (.t 60), none⟩,
          ⟨(some 62), .bin .neq .num (.t 61) (.c (.int .i64 0)), none⟩]) <|
        .cond (.t 62)
          (.seq (.region [⟨(some 2), .mov (.c (.bool false)), none⟩]) <|
          .ret)
          (.skip)) <|
      .region [⟨(some 57), .mov (.t 8), none⟩,
        ⟨(some 58), .bin .add .num (.t 57) (.c (.int .i64 1)), none⟩,
        ⟨(some 8), .mov (.t 58), none⟩]) <|
  vb6_1
def vb6 : VC :=
  .seq (.region [⟨(some 2), .mov (.c (.bool false)), none⟩]) <|
  .seq (.region [⟨(some 9), .call false 7 [], none⟩,
    ⟨(some 3), .mov (.t 9), none⟩]) <|
  .seq (.region [⟨(some 10), .call false 8 [], none⟩,
    ⟨(some 4), .mov (.t 10), none⟩]) <|
  .seq (.seq (.region [⟨(some 11), .mov (.t 3), none⟩,
    ⟨(some 12), .un .not (.t 11), none⟩,
    ⟨(some 13), .mov (.t 12), none⟩,
    ⟨(some 14), .mov (.t 4), some (13, false)⟩,
    ⟨(some 15), .bin .eql .ptr (.t 14) (.c .nilp), some (13, false)⟩,
    ⟨(some 16), .pick (.t 13) (.c (.bool true)) (.t 15), none⟩]) <|
  .cond (.t 16)
    (.seq (.region [⟨(some 2), .mov (.c (.bool false)), none⟩]) <|
    .ret)
    (.skip)) <|
  .seq (.seq (.region [⟨(some 5), .mov (.c (.int .i64 0)), none⟩]) <|
  .block 0 <|
    .loop <|
      .seq (.seq (.region [⟨(some 17), .mov (.t 5), none⟩,
        ⟨(some 18), .mov (.t 0), none⟩,
        ⟨(some 19), .len (.t 18), none⟩,
        ⟨(some 20), .bin .lss .num (.t 17) (.t 19), none⟩,
        ⟨(some 21), .mov (.t 20), none⟩,
        ⟨(some 22), .mov (.t 5), some (21, true)⟩,
        ⟨(some 23), .bin .lss .num (.t 22) (.c (.int .i64 60)), some (21, true)⟩,
        ⟨(some 24), .pick (.t 21) (.t 23) (.c (.bool false)), none⟩]) <|
      .cond (.t 24)
        (.skip)
        (.exit 0)) <|
      .seq (.block 1 <|
        .region [⟨(some 27), .mov (.t 4), none⟩,
          ⟨(some 28), .mov (.t 0), none⟩,
          ⟨(some 29), .mov (.t 5), none⟩,
          ⟨(some 30), .index 3 (.t 28) (.t 29), none⟩,
          ⟨(some 31), .load (some 3) (.t 30), none⟩,
          ⟨(some 32), .call false 23 [(.t 27), (.t 31)], none⟩]) <|
      .region [⟨(some 25), .mov (.t 5), none⟩,
        ⟨(some 26), .bin .add .num (.t 25) (.c (.int .i64 1)), none⟩,
        ⟨(some 5), .mov (.t 26), none⟩]) <|
  vb6_2
def vf6 : VFun := ⟨71, 0, vb6, [.tmp 2], false⟩
theorem cf6 : cFun Go.Proofs.Try.prog rawF false Go.Proofs.Try.f6 = some vf6 := by kernel_rfl
theorem T6 {args : List PV} {σ : VHeap} {Post : KP} (h : vfun Go.Proofs.Try.prog vf6 args σ Post) : T Go.Proofs.Try.prog 6 args σ Post := T_of Go.Proofs.Try.func6 cf6 h

/-- vinery/vinerylaw13.small -/
def vb7 : VC :=
  .seq (.region [⟨(some 0), .mov (.c (.bool false)), none⟩]) <|
  .seq (.region [⟨(some 10), .call false 8 [], none⟩,
    ⟨(some 1), .mov (.t 10), none⟩]) <|
  .seq (.seq (.region [⟨(some 11), .mov (.t 1), none⟩,
    ⟨(some 12), .bin .eql .ptr (.t 11) (.c .nilp), none⟩]) <|
  .cond (.t 12)
    (.seq (.region [⟨(some 0), .mov (.c (.bool false)), none⟩]) <|
    .ret)
    (.skip)) <|
  .seq (.region [⟨(some 13), .mov (.t 1), none⟩,
    ⟨(some 14), .call false 9 [(.t 13), (.c (.str [97])), (.c (.int .i64 2))], none⟩,
    ⟨(some 2), .mov (.t 14), none⟩]) <|
  .seq (.region [⟨(some 15), .mov (.t 1), none⟩,
    ⟨(some 16), .call false 9 [(.t 15), (.c (.str [98])), (.c (.int .i64 1))], none⟩,
    ⟨(some 3), .mov (.t 16), none⟩]) <|
  .seq (.region [⟨(some 18), .mov (.t 1), none⟩,
    ⟨(some 19), .call false 21 [(.t 18)], none⟩,
    ⟨(some 17), .mov (.t 19), none⟩,
    ⟨(some 20), .extract 0 (.t 17), none⟩,
    ⟨(some 21), .extract 1 (.t 17), none⟩,
    ⟨(some 4), .mov (.t 20), none⟩,
    ⟨(some 5), .mov (.t 21), none⟩]) <|
  .seq (.region [⟨(some 22), .mov (.t 1), none⟩,
    ⟨(some 23), .call false 10 [(.t 22)], none⟩,
    ⟨(some 6), .mov (.t 23), none⟩]) <|
  .seq (.region [⟨(some 25), .mov (.t 1), none⟩,
    ⟨(some 26), .call false 15 [(.t 25), (.c (.str [97]))], none⟩,
    ⟨(some 24), .mov (.t 26), none⟩,
    ⟨(some 27), .extract 0 (.t 24), none⟩,
    ⟨(some 28), .extract 1 (.t 24), none⟩,
    ⟨(some 7), .mov (.t 27), none⟩,
    ⟨(some 8), .mov (.t 28), none⟩]) <|
  .seq (.region [⟨(some 29), .mov (.t 1), none⟩,
    ⟨(some 30), .call false 10 [(.t 29)], none⟩,
    ⟨(some 9), .mov (.t 30), none⟩]) <|
  .seq (.region [⟨(some 31), .mov (.t 2), none⟩,
    ⟨(some 32), .bin .eql .num (.t 31) (.c (.int .i64 0)), none⟩,
    ⟨(some 33), .mov (.t 32), none⟩,
    ⟨(some 34), .mov (.t 3), some (33, true)⟩,
    ⟨(some 35), .bin .eql .num (.t 34) (.c (.int .i64 0)), some (33, true)⟩,
    ⟨(some 36), .pick (.t 33) (.t 35) (.c (.bool false)), none⟩,
    ⟨(some 37), .mov (.t 36), none⟩,
    ⟨(some 38), .mov (.t 4), some (37, true)⟩,
    ⟨(some 39), .bin .eql .num (.t 38) (.c (.int .i64 1)), some (37, true)⟩,
    ⟨(some 40), .pick (.t 37) (.t 39) (.c (.bool false)), none⟩,
    ⟨(some 41), .mov (.t 40), none⟩,
    ⟨(some 42), .mov (.t 5), some (41, true)⟩,
    ⟨(some 43), .pick (.t 41) (.t 42) (.c (.bool false)), none⟩,
    ⟨(some 44), .mov (.t 43), none⟩,
    ⟨(some 45), .mov (.t 6), some (44, true)⟩,
    ⟨(some 46), .len (.t 45), some (44, true)⟩,
    ⟨(some 47), .bin .eql .num (.t 46) (.c (.int .i64 1)), some (44, true)⟩,
    ⟨(some 48), .pick (.t 44) (.t 47) (.c (.bool false)), none⟩,
    ⟨(some 49), .mov (.t 48), none⟩,
    ⟨(some 50), .mov (.t 6), some (49, true)⟩,
    ⟨(some 51), .index 1 (.t 50) (.c (.int .i64 0)), some (49, true)⟩,
    ⟨(some 52), .load none (.t 51), some (49, true)⟩,
    ⟨(some 53), .bin .eql .num (.t 52) (.c (.str [98])), some (49, true)⟩,
    ⟨(some 54), .pick (.t 49) (.t 53) (.c (.bool false)), none⟩,
    ⟨(some 55), .mov (.t 54), none⟩,
    ⟨(some 56), .mov (.t 7), some (55, true)⟩,
    ⟨(some 57), .bin .eql .num (.t 56) (.c (.int .i64 1)), some (55, true)⟩,
    ⟨(some 58), .pick (.t 55) (.t 57) (.c (.bool false)), none⟩,
    ⟨(some 59), .mov (.t 58), none⟩,
    ⟨(some 60), .mov (.t 8), some (59, true)⟩,
    ⟨(some 61), .pick (.t 59) (.t 60) (.c (.bool false)), none⟩,
    ⟨(some 62), .mov (.t 61), none⟩,
    ⟨(some 63), .mov (.t 9), some (62, true)⟩,
    ⟨(some 64), .len (.t 63), some (62, true)⟩,
    ⟨(some 65), .bin .eql .num (.t 64) (.c (.int .i64 1)), some (62, true)⟩,
    ⟨(some 66), .pick (.t 62) (.t 65) (.c (.bool false)), none⟩,
    ⟨(some 67), .mov (.t 66), none⟩,
    ⟨(some 68), .mov (.t 9), some (67, true)⟩,
    ⟨(some 69), .index 1 (.t 68) (.c (.int .i64 0)), some (67, true)⟩,
    ⟨(some 70), .load none (.t 69), some (67, true)⟩,
    ⟨(some 71), .bin .eql .num (.t 70) (.c (.str [97])), some (67, true)⟩,
    ⟨(some 72), .pick (.t 67) (.t 71) (.c (.bool false)), none⟩,
    ⟨(some 73), .mov (.t 72), none⟩,
    ⟨(some 74), .mov (.t 1), some (73, true)⟩,
    ⟨(some 75), .call false 9 [(.t 74), (.c (.str [97])), (.c (.int .i64 0))], some (73, true)⟩,
    ⟨(some 76), .bin .eql .num (.t 75) (.c (.int .i64 1)), some (73, true)⟩,
    ⟨(some 77), .pick (.t 73) (.t 76) (.c (.bool false)), none⟩,
    ⟨(some 0), .mov (.t 77), none⟩]) <|
  .ret
def vf7 : VFun := ⟨78, 0, vb7, [.tmp 0], false⟩
theorem cf7 : cFun Go.Proofs.Try.prog rawF false Go.Proofs.Try.f7 = some vf7 := by kernel_rfl
theorem T7 {args : List PV} {σ : VHeap} {Post : KP} (h : vfun Go.Proofs.Try.prog vf7 args σ Post) : T Go.Proofs.Try.prog 7 args σ Post := T_of Go.Proofs.Try.func7 cf7 h

/-- vinery/timer.New -/
def vb8 : VC :=
  .seq (.region [⟨(some 0), .mov (.c .nilp), none⟩]) <|
  .seq (.region [⟨(some 1), .makeMap 0, none⟩,
    ⟨(some 2), .build [.nilm] [(0, 1, (.t 1))], none⟩,
    ⟨(some 3), .box 1 (.t 2), none⟩,
    ⟨(some 0), .mov (.t 3), none⟩]) <|
  .ret
def vf8 : VFun := ⟨4, 2, vb8, [.tmp 0], false⟩
theorem cf8 : cFun Go.Proofs.Try.prog rawF false Go.Proofs.Try.f8 = some vf8 := by kernel_rfl
theorem T8 {args : List PV} {σ : VHeap} {Post : KP} (h : vfun Go.Proofs.Try.prog vf8 args σ Post) : T Go.Proofs.Try.prog 8 args σ Post := T_of Go.Proofs.Try.func8 cf8 h

/-- (*vinery/timer.Timers).Start -/
def vb9 : VC :=
  .seq (.region [⟨(some 6), .mov (.c (.int .i64 0)), none⟩]) <|
  .seq (.region [⟨(some 10), .mov (.t 0), none⟩,
    ⟨(some 11), .nilCheck (.t 10), none⟩,
    ⟨(some 12), .field 0 (.t 11), none⟩,
    ⟨(some 13), .load none (.t 12), none⟩,
    ⟨(some 14), .mov (.t 1), none⟩,
    ⟨(some 15), .lookup true (.int .i64 0) true (.t 13) (.t 14), none⟩,
    ⟨(some 9), .mov (.t 15), none⟩,
    ⟨(some 16), .extract 0 (.t 9), none⟩,
    ⟨(some 17), .extract 1 (.t 9), none⟩,
    ⟨(some 7), .mov (.t 16), none⟩,
    ⟨(some 8), .mov (.t 17), none⟩]) <|
  .seq (.block 0 <|
    .seq (.region [⟨(some 19), .mov (.t 2), none⟩,
      ⟨(some 20), .bin .lss .num (.t 19) (.c (.int .i64 1)), none⟩,
      ⟨(some 18), .mov (.t 20), none⟩]) <|
    .cond (.t 18)
      (.seq (.region [⟨(some 6), .mov (.c (.int .i64 1)), none⟩]) <|
      .ret)
      (.seq (.region [⟨(some 22), .mov (.t 8), none⟩,
        ⟨(some 23), .un .not (.t 22), none⟩,
        ⟨(some 24), .mov (.t 23), none⟩,
        ⟨(some 25), .mov (.t 0), some (24, true)⟩,
        ⟨(some 26), .nilCheck (.t 25), some (24, true)⟩,
        ⟨(some 27), .field 0 (.t 26), some (24, true)⟩,
        ⟨(some 28), .load none (.t 27), some (24, true)⟩,
        ⟨(some 29), .lenMap (.t 28), some (24, true)⟩,
        ⟨(some 30), .bin .geq .num (.t 29) (.c (.int .i64 32)), some (24, true)⟩,
        ⟨(some 31), .pick (.t 24) (.t 30) (.c (.bool false)), none⟩,
        ⟨(some 21), .mov (.t 31), none⟩]) <|
      .cond (.t 21)
        (.seq (.region [⟨(some 6), .mov (.c (.int .i64 6)), none⟩]) <|
        .ret)
        (.skip))) <|
  .seq (.region [⟨(some 32), .mov (.t 0), none⟩,
    ⟨(some 33), .nilCheck (.t 32), none⟩,
    ⟨(some 34), .field 0 (.t 33), none⟩,
    ⟨(some 35), .load none (.t 34), none⟩,
    ⟨(some 36), .mov (.t 1), none⟩,
    ⟨(some 37), .mov (.t 2), none⟩,
    ⟨none, .mapUpdate true (.t 35) (.t 36) (.t 37), none⟩]) <|
  .seq (.region [⟨(some 6), .mov (.c (.int .i64 0)), none⟩]) <|
  .ret
def vf9 : VFun := ⟨38, 0, vb9, [.tmp 6], false⟩
theorem cf9 : cFun Go.Proofs.Try.prog rawF false Go.Proofs.Try.f9 = some vf9 := by kernel_rfl
theorem T9 {args : List PV} {σ : VHeap} {Post : KP} (h : vfun Go.Proofs.Try.prog vf9 args σ Post) : T Go.Proofs.Try.prog 9 args σ Post := T_of Go.Proofs.Try.func9 cf9 h

/-- (*vinery/timer.Timers).Tick -/
def vb10 : VC :=
  .seq (.region [⟨(some 2), .newRow 0 1, none⟩]) <|
  .seq (.region [⟨(some 3), .newRow 1 1, none⟩]) <|
  .seq (.seq (.region [⟨(some 8), .mov (.t 0), none⟩,
    ⟨(some 9), .nilCheck (.t 8), none⟩,
    ⟨(some 10), .field 0 (.t 9), none⟩,
    ⟨(some 11), .load none (.t 10), none⟩,
    ⟨(some 12), .rangeMap 2 (.t 11), none⟩]) <|
  .block 0 <|
    .loop <|
      .seq (.region [⟨(some 13), .nextMap (.t 12), none⟩,
        ⟨(some 14), .extract 0 (.t 13), none⟩]) <|
      .seq (.cond (.t 14)
        (.skip)
        (.exit 0)) <|
      .block 1 <|
        .seq (.region [⟨(some 15), .entry (.t 12), none⟩,
          ⟨(some 16), .extract 0 (.t 15), none⟩,
          ⟨(some 17), .extract 1 (.t 15), none⟩,
          ⟨(some 4), .mov (.t 16), none⟩,
          ⟨(some 5), .mov (.t 17), none⟩]) <|
        .seq (.seq (.region [⟨(some 18), .mov (.t 5), none⟩,
          ⟨(some 19), .bin .eql .num (.t 18) (.c (.int .i64 1)), none⟩]) <|
        .cond (.t 19)
          (.region [⟨(some 20), .mov (.t 3), none⟩,
            ⟨(some 21), .mov (.t 4), none⟩,
            ⟨(some 22), .buildSlice 3 1 1 [(.str [])] [(0, (.t 21))], none⟩,
            ⟨(some 23), .append 4 1 16 (.t 20) (.t 22), none⟩,
            ⟨(some 3), .mov (.t 23), none⟩])
          (.skip)) <|
        .region [⟨(some 24), .mov (.t 0), none⟩,
          ⟨(some 25), .nilCheck (.t 24), none⟩,
          ⟨(some 26), .field 0 (.t 25), none⟩,
          ⟨(some 27), .load none (.t 26), none⟩,
          ⟨(some 28), .mov (.t 4), none⟩,
          ⟨(some 29), .mov (.t 5), none⟩,
          ⟨(some 30), .bin .sub .num (.t 29) (.c (.int .i64 1)), none⟩,
          ⟨none, .mapUpdate true (.t 27) (.t 28) (.t 30), none⟩]) <|
  .seq (.seq (.region [⟨(some 31), .mov (.t 3), none⟩,
    ⟨(some 32), .len (.t 31), none⟩,
    ⟨(some 33), .mov (.c (.int .i64 0)), none⟩]) <|
  .block 2 <|
    .loop <|
      .seq (.region [⟨(some 34), .bin .lss .num (.t 33) (.t 32), none⟩]) <|
      .seq (.cond (.t 34)
        (.skip)
        (.exit 2)) <|
      .seq (.block 3 <|
        .seq (.region [⟨(some 35), .index 1 (.t 31) (.t 33), none⟩,
          ⟨(some 36), .load none (.t 35), none⟩,
          ⟨(some 7), .mov (.t 36), none⟩]) <|
        .region [⟨(some 37), .mov (.t 0), none⟩,
          ⟨(some 38), .nilCheck (.t 37), none⟩,
          ⟨(some 39), .field 0 (.t 38), none⟩,
          ⟨(some 40), .load none (.t 39), none⟩,
          ⟨(some 41), .mov (.t 7), none⟩,
          ⟨none, .delete true (.t 40) (.t 41), none⟩]) <|
      .region [⟨(some 42), .bin .add .num (.t 33) (.c (.int .i64 1)), none⟩,
        ⟨(some 33), .mov (.t 42), none⟩]) <|
  .seq (.region [⟨(some 43), .mov (.t 3), none⟩,
    ⟨(some 44), .call true 24 [(.t 43)], none⟩]) <|
  .seq (.region [⟨(some 45), .mov (.t 3), none⟩,
    ⟨(some 2), .mov (.t 45), none⟩]) <|
  .ret
def vf10 : VFun := ⟨46, 5, vb10, [.tmp 2], false⟩
theorem cf10 : cFun Go.Proofs.Try.prog rawF false Go.Proofs.Try.f10 = some vf10 := by kernel_rfl
theorem T10 {args : List PV} {σ : VHeap} {Post : KP} (h : vfun Go.Proofs.Try.prog vf10 args σ Post) : T Go.Proofs.Try.prog 10 args σ Post := T_of Go.Proofs.Try.func10 cf10 h

/-- (*vinery/timer.Timers).Stop -/
def vb11 : VC :=
  .seq (.region [⟨(some 4), .mov (.c (.bool false)), none⟩]) <|
  .seq (.region [⟨(some 8), .mov (.t 0), none⟩,
    ⟨(some 9), .nilCheck (.t 8), none⟩,
    ⟨(some 10), .field 0 (.t 9), none⟩,
    ⟨(some 11), .load none (.t 10), none⟩,
    ⟨(some 12), .mov (.t 1), none⟩,
    ⟨(some 13), .lookup true (.int .i64 0) true (.t 11) (.t 12), none⟩,
    ⟨(some 7), .mov (.t 13), none⟩,
    ⟨(some 14), .extract 0 (.t 7), none⟩,
    ⟨(some 15), .extract 1 (.t 7), none⟩,
    ⟨(some 5), .mov (.t 14), none⟩,
    ⟨(some 6), .mov (.t 15), none⟩]) <|
  .seq (.region [⟨(some 16), .mov (.t 0), none⟩,
    ⟨(some 17), .nilCheck (.t 16), none⟩,
    ⟨(some 18), .field 0 (.t 17), none⟩,
    ⟨(some 19), .load none (.t 18), none⟩,
    ⟨(some 20), .mov (.t 1), none⟩,
    ⟨none, .delete true (.t 19) (.t 20), none⟩]) <|
  .seq (.region [⟨(some 21), .mov (.t 6), none⟩,
    ⟨(some 4), .mov (.t 21), none⟩]) <|
  .ret
def vf11 : VFun := ⟨22, 0, vb11, [.tmp 4], false⟩
theorem cf11 : cFun Go.Proofs.Try.prog rawF false Go.Proofs.Try.f11 = some vf11 := by kernel_rfl
theorem T11 {args : List PV} {σ : VHeap} {Post : KP} (h : vfun Go.Proofs.Try.prog vf11 args σ Post) : T Go.Proofs.Try.prog 11 args σ Post := T_of Go.Proofs.Try.func11 cf11 h

/-- vinery/vineryref13.New -/
def vb12 : VC :=
  .seq (.region [⟨(some 0), .mov (.c .nilp), none⟩]) <|
  .seq (.region [⟨(some 1), .build [.nils] [], none⟩,
    ⟨(some 2), .box 0 (.t 1), none⟩,
    ⟨(some 0), .mov (.t 2), none⟩]) <|
  .ret
def vf12 : VFun := ⟨3, 1, vb12, [.tmp 0], false⟩
theorem cf12 : cFun Go.Proofs.Try.prog rawF false Go.Proofs.Try.f12 = some vf12 := by kernel_rfl
theorem T12 {args : List PV} {σ : VHeap} {Post : KP} (h : vfun Go.Proofs.Try.prog vf12 args σ Post) : T Go.Proofs.Try.prog 12 args σ Post := T_of Go.Proofs.Try.func12 cf12 h

/-- (*vinery/vineryref13.Timers).Start -/
def vb13 : VC :=
  .seq (.region [⟨(some 6), .mov (.c (.int .i64 0)), none⟩]) <|
  .seq (.region [⟨(some 12), .mov (.t 0), none⟩,
    ⟨(some 13), .mov (.t 1), none⟩,
    ⟨(some 14), .call false 16 [(.t 12), (.t 13)], none⟩,
    ⟨(some 11), .mov (.t 14), none⟩,
    ⟨(some 15), .extract 0 (.t 11), none⟩,
    ⟨(some 16), .extract 1 (.t 11), none⟩,
    ⟨(some 7), .mov (.t 15), none⟩,
    ⟨(some 8), .mov (.t 16), none⟩]) <|
  .seq (.seq (.region [⟨(some 17), .mov (.t 2), none⟩,
    ⟨(some 18), .bin .lss .num (.t 17) (.c (.int .i64 1)), none⟩]) <|
  .cond (.t 18)
    (.seq (.region [⟨(some 6), .mov (.c (.int .i64 1)), none⟩]) <|
    .ret)
    (.skip)) <|
  .seq (.seq (.region [⟨(some 19), .mov (.t 8), none⟩,
    ⟨(some 20), .un .not (.t 19), none⟩,
    ⟨(some 21), .mov (.t 20), none⟩,
    ⟨(some 22), .mov (.t 0), some (21, true)⟩,
    ⟨(some 23), .nilCheck (.t 22), some (21, true)⟩,
    ⟨(some 24), .field 0 (.t 23), some (21, true)⟩,
    ⟨(some 25), .load none (.t 24), some (21, true)⟩,
    ⟨(some 26), .len (.t 25), some (21, true)⟩,
    ⟨(some 27), .bin .geq .num (.t 26) (.c (.int .i64 32)), some (21, true)⟩,
    ⟨(some 28), .pick (.t 21) (.t 27) (.c (.bool false)), none⟩]) <|
  .cond (.t 28)
    (.seq (.region [⟨(some 6), .mov (.c (.int .i64 6)), none⟩]) <|
    .ret)
    (.skip)) <|
  .seq (.region [⟨(some 29), .mov (.t 0), none⟩,
    ⟨(some 30), .mov (.t 1), none⟩,
    ⟨(some 31), .call false 14 [(.t 29), (.t 30)], none⟩]) <|
  .seq (.region [⟨(some 32), .mov (.t 0), none⟩,
    ⟨(some 33), .mov (.t 1), none⟩,
    ⟨(some 34), .call false 25 [(.t 32), (.t 33)], none⟩,
    ⟨(some 9), .mov (.t 34), none⟩]) <|
  .seq (.region [⟨(some 10), .newRow 0 2, none⟩]) <|
  .seq (.region [⟨(some 35), .mov (.t 10), none⟩,
    ⟨(some 36), .mov (.t 0), none⟩,
    ⟨(some 37), .nilCheck (.t 36), none⟩,
    ⟨(some 38), .field 0 (.t 37), none⟩,
    ⟨(some 39), .load none (.t 38), none⟩,
    ⟨(some 40), .mov (.t 9), none⟩,
    ⟨(some 41), .slice 2 (.t 39) none (some (.t 40)), none⟩,
    ⟨(some 42), .append 1 2 24 (.t 35) (.t 41), none⟩,
    ⟨(some 10), .mov (.t 42), none⟩]) <|
  .seq (.region [⟨(some 43), .mov (.t 10), none⟩,
    ⟨(some 44), .mov (.t 1), none⟩,
    ⟨(some 45), .mov (.t 2), none⟩,
    ⟨(some 46), .build [(.str []), (.int .i64 0)] [(0, 1, (.t 44)), (1, 1, (.t 45))], none⟩,
    ⟨(some 47), .buildSlice 2 2 1 [(.str []), (.int .i64 0)] [(0, (.t 46))], none⟩,
    ⟨(some 48), .append 3 2 24 (.t 43) (.t 47), none⟩,
    ⟨(some 10), .mov (.t 48), none⟩]) <|
  .seq (.region [⟨(some 49), .mov (.t 0), none⟩,
    ⟨(some 50), .mov (.t 10), none⟩,
    ⟨(some 51), .mov (.t 0), none⟩,
    ⟨(some 52), .nilCheck (.t 51), none⟩,
    ⟨(some 53), .field 0 (.t 52), none⟩,
    ⟨(some 54), .load none (.t 53), none⟩,
    ⟨(some 55), .mov (.t 9), none⟩,
    ⟨(some 56), .slice 2 (.t 54) (some (.t 55)) none, none⟩,
    ⟨(some 57), .append 4 2 24 (.t 50) (.t 56), none⟩,
    ⟨(some 58), .nilCheck (.t 49), none⟩,
    ⟨(some 59), .field 0 (.t 58), none⟩,
    ⟨none, .store 1 (.t 59) (.t 57), none⟩]) <|
  .seq (.region [⟨(some 6), .mov (.c (.int .i64 0)), none⟩]) <|
  .ret
def vf13 : VFun := ⟨60, 5, vb13, [.tmp 6], false⟩
theorem cf13 : cFun Go.Proofs.Try.prog rawF false Go.Proofs.Try.f13 = some vf13 := by kernel_rfl
theorem T13 {args : List PV} {σ : VHeap} {Post : KP} (h : vfun Go.Proofs.Try.prog vf13 args σ Post) : T Go.Proofs.Try.prog 13 args σ Post := T_of Go.Proofs.Try.func13 cf13 h

/-- (*vinery/vineryref13.Timers).Stop -/
def vb14 : VC :=
  .seq (.region [⟨(some 4), .mov (.c (.bool false)), none⟩]) <|
  .seq (.region [⟨(some 7), .mov (.t 0), none⟩,
    ⟨(some 8), .mov (.t 1), none⟩,
    ⟨(some 9), .call false 25 [(.t 7), (.t 8)], none⟩,
    ⟨(some 5), .mov (.t 9), none⟩]) <|
  .seq (.seq (.region [⟨(some 10), .mov (.t 5), none⟩,
    ⟨(some 11), .mov (.t 0), none⟩,
    ⟨(some 12), .nilCheck (.t 11), none⟩,
    ⟨(some 13), .field 0 (.t 12), none⟩,
    ⟨(some 14), .load none (.t 13), none⟩,
    ⟨(some 15), .len (.t 14), none⟩,
    ⟨(some 16), .bin .eql .num (.t 10) (.t 15), none⟩,
    ⟨(some 17), .mov (.t 16), none⟩,
    ⟨(some 18), .mov (.t 0), some (17, false)⟩,
    ⟨(some 19), .nilCheck (.t 18), some (17, false)⟩,
    ⟨(some 20), .field 0 (.t 19), some (17, false)⟩,
    ⟨(some 21), .load none (.t 20), some (17, false)⟩,
    ⟨(some 22), .mov (.t 5), some (17, false)⟩,
    ⟨(some 23), .index 2 (.t 21) (.t 22), some (17, false)⟩,
    ⟨(some 24), .field 0 (.t 23), some (17, false)⟩,
    ⟨(some 25), .load none (.t 24), some (17, false)⟩,
    ⟨(some 26), .mov (.t 1), some (17, false)⟩,
    ⟨(some 27), .bin .neq .num (.t 25) (.t 26), some (17, false)⟩,
    ⟨(some 28), .pick (.t 17) (.c (.bool true)) (.t 27), none⟩]) <|
  .cond (.t 28)
    (.seq (.region [⟨(some 4), .mov (.c (.bool false)), none⟩]) <|
    .ret)
    (.skip)) <|
  .seq (.region [⟨(some 6), .newRow 0 2, none⟩]) <|
  .seq (.region [⟨(some 29), .mov (.t 6), none⟩,
    ⟨(some 30), .mov (.t 0), none⟩,
    ⟨(some 31), .nilCheck (.t 30), none⟩,
    ⟨(some 32), .field 0 (.t 31), none⟩,
    ⟨(some 33), .load none (.t 32), none⟩,
    ⟨(some 34), .mov (.t 5), none⟩,
    ⟨(some 35), .slice 2 (.t 33) none (some (.t 34)), none⟩,
    ⟨(some 36), .append 1 2 24 (.t 29) (.t 35), none⟩,
    ⟨(some 6), .mov (.t 36), none⟩]) <|
  .seq (.region [⟨(some 37), .mov (.t 0), none⟩,
    ⟨(some 38), .mov (.t 6), none⟩,
    ⟨(some 39), .mov (.t 0), none⟩,
    ⟨(some 40), .nilCheck (.t 39), none⟩,
    ⟨(some 41), .field 0 (.t 40), none⟩,
    ⟨(some 42), .load none (.t 41), none⟩,
    ⟨(some 43), .mov (.t 5), none⟩,
    ⟨(some 44), .bin .add .num (.t 43) (.c (.int .i64 1)), none⟩,
    ⟨(some 45), .slice 2 (.t 42) (some (.t 44)) none, none⟩,
    ⟨(some 46), .append 2 2 24 (.t 38) (.t 45), none⟩,
    ⟨(some 47), .nilCheck (.t 37), none⟩,
    ⟨(some 48), .field 0 (.t 47), none⟩,
    ⟨none, .store 1 (.t 48) (.t 46), none⟩]) <|
  .seq (.region [⟨(some 4), .mov (.c (.bool true)), none⟩]) <|
  .ret
def vf14 : VFun := ⟨49, 3, vb14, [.tmp 4], false⟩
theorem cf14 : cFun Go.Proofs.Try.prog rawF false Go.Proofs.Try.f14 = some vf14 := by kernel_rfl
theorem T14 {args : List PV} {σ : VHeap} {Post : KP} (h : vfun Go.Proofs.Try.prog vf14 args σ Post) : T Go.Proofs.Try.prog 14 args σ Post := T_of Go.Proofs.Try.func14 cf14 h

/-- (*vinery/timer.Timers).Left -/
def vb15 : VC :=
  .seq (.region [⟨(some 4), .mov (.c (.int .i64 0)), none⟩,
    ⟨(some 5), .mov (.c (.bool false)), none⟩]) <|
  .seq (.region [⟨(some 9), .mov (.t 0), none⟩,
    ⟨(some 10), .nilCheck (.t 9), none⟩,
    ⟨(some 11), .field 0 (.t 10), none⟩,
    ⟨(some 12), .load none (.t 11), none⟩,
    ⟨(some 13), .mov (.t 1), none⟩,
    ⟨(some 14), .lookup true (.int .i64 0) true (.t 12) (.t 13), none⟩,
    ⟨(some 8), .mov (.t 14), none⟩,
    ⟨(some 15), .extract 0 (.t 8), none⟩,
    ⟨(some 16), .extract 1 (.t 8), none⟩,
    ⟨(some 6), .mov (.t 15), none⟩,
    ⟨(some 7), .mov (.t 16), none⟩]) <|
  .seq (.region [⟨(some 17), .mov (.t 6), none⟩,
    ⟨(some 18), .mov (.t 7), none⟩,
    ⟨(some 4), .mov (.t 17), none⟩,
    ⟨(some 5), .mov (.t 18), none⟩]) <|
  .ret
def vf15 : VFun := ⟨19, 0, vb15, [.tmp 4, .tmp 5], false⟩
theorem cf15 : cFun Go.Proofs.Try.prog rawF false Go.Proofs.Try.f15 = some vf15 := by kernel_rfl
theorem T15 {args : List PV} {σ : VHeap} {Post : KP} (h : vfun Go.Proofs.Try.prog vf15 args σ Post) : T Go.Proofs.Try.prog 15 args σ Post := T_of Go.Proofs.Try.func15 cf15 h

/-- (*vinery/vineryref13.Timers).Left -/
def vb16 : VC :=
  .seq (.region [⟨(some 4), .mov (.c (.int .i64 0)), none⟩,
    ⟨(some 5), .mov (.c (.bool false)), none⟩]) <|
  .seq (.region [⟨(some 7), .mov (.t 0), none⟩,
    ⟨(some 8), .mov (.t 1), none⟩,
    ⟨(some 9), .call false 25 [(.t 7), (.t 8)], none⟩,
    ⟨(some 6), .mov (.t 9), none⟩]) <|
  .seq (.seq (.region [⟨(some 10), .mov (.t 6), none⟩,
    ⟨(some 11), .mov (.t 0), none⟩,
    ⟨(some 12), .nilCheck (.t 11), none⟩,
    ⟨(some 13), .field 0 (.t 12), none⟩,
    ⟨(some 14), .load none (.t 13), none⟩,
    ⟨(some 15), .len (.t 14), none⟩,
    ⟨(some 16), .bin .eql .num (.t 10) (.t 15), none⟩,
    ⟨(some 17), .mov (.t 16), none⟩,
    ⟨(some 18), .mov (.t 0), some (17, false)⟩,
    ⟨(some 19), .nilCheck (.t 18), some (17, false)⟩,
    ⟨(some 20), .field 0 (.t 19), some (17, false)⟩,
    ⟨(some 21), .load none (.t 20), some (17, false)⟩,
    ⟨(some 22), .mov (.t 6), some (17, false)⟩,
    ⟨(some 23), .index 2 (.t 21) (.t 22), some (17, false)⟩,
    ⟨(some 24), .field 0 (.t 23), some (17, false)⟩,
    ⟨(some 25), .load none (.t 24), some (17, false)⟩,
    ⟨(some 26), .mov (.t 1), some (17, false)⟩,
    ⟨(some 27), .bin .neq .num (.t 25) (.t 26), some (17, false)⟩,
    ⟨(some 28), .pick (.t 17) (.c (.bool true)) (.t 27), none⟩]) <|
  .cond (.t 28)
    (.seq (.region [⟨(some 4), .mov (.c (.int .i64 0)), none⟩,
      ⟨(some 5), .mov (.c (.bool false)), none⟩]) <|
    .ret)
    (.skip)) <|
  .seq (.region [⟨(some 29), .mov (.t 0), none⟩,
    ⟨(some 30), .nilCheck (.t 29), none⟩,
    ⟨(some 31), .field 0 (.t 30), none⟩,
    ⟨(some 32), .load none (.t 31), none⟩,
    ⟨(some 33), .mov (.t 6), none⟩,
    ⟨(some 34), .index 2 (.t 32) (.t 33), none⟩,
    ⟨(some 35), .field 1 (.t 34), none⟩,
    ⟨(some 36), .load none (.t 35), none⟩,
    ⟨(some 4), .mov (.t 36), none⟩,
    ⟨(some 5), .mov (.c (.bool true)), none⟩]) <|
  .ret
def vf16 : VFun := ⟨37, 0, vb16, [.tmp 4, .tmp 5], false⟩
theorem cf16 : cFun Go.Proofs.Try.prog rawF false Go.Proofs.Try.f16 = some vf16 := by kernel_rfl
theorem T16 {args : List PV} {σ : VHeap} {Post : KP} (h : vfun Go.Proofs.Try.prog vf16 args σ Post) : T Go.Proofs.Try.prog 16 args σ Post := T_of Go.Proofs.Try.func16 cf16 h

/-- (*vinery/vineryref13.Timers).Tick -/
def vb18 : VC :=
  .seq (.region [⟨(some 2), .newRow 0 1, none⟩]) <|
  .seq (.region [⟨(some 3), .newRow 1 1, none⟩]) <|
  .seq (.region [⟨(some 4), .newRow 2 2, none⟩]) <|
  .seq (.seq (.region [⟨(some 5), .mov (.c (.int .i64 0)), none⟩]) <|
  .block 0 <|
    .loop <|
      .seq (.seq (.region [⟨(some 7), .mov (.t 5), none⟩,
        ⟨(some 8), .mov (.t 0), none⟩,
        ⟨(some 9), .nilCheck (.t 8), none⟩,
        ⟨(some 10), .field 0 (.t 9), none⟩,
        ⟨(some 11), .load none (.t 10), none⟩,
        ⟨(some 12), .len (.t 11), none⟩,
        ⟨(some 13), .bin .lss .num (.t 7) (.t 12), none⟩]) <|
      .cond (.t 13)
        (.skip)
        (.exit 0)) <|
      .seq (.block 1 <|
        .seq (.region [⟨(some 16), .mov (.t 0), none⟩,
          ⟨(some 17), .nilCheck (.t 16), none⟩,
          ⟨(some 18), .field 0 (.t 17), none⟩,
          ⟨(some 19), .load none (.t 18), none⟩,
          ⟨(some 20), .mov (.t 5), none⟩,
          ⟨(some 21), .index 2 (.t 19) (.t 20), none⟩,
          ⟨(some 22), .load (some 2) (.t 21), none⟩,
          ⟨(some 6), .alloc 3 [(.str []), (.int .i64 0)], none⟩,
          ⟨none, .store 2 (.t 6) (.t 22), none⟩]) <|
        .seq (.region [⟨(some 23), .field 1 (.t 6), none⟩,
          ⟨(some 24), .load none (.t 23), none⟩,
          ⟨(some 25), .bin .eql .num (.t 24) (.c (.int .i64 1)), none⟩]) <|
        .cond (.t 25)
          (.region [⟨(some 26), .mov (.t 3), none⟩,
            ⟨(some 27), .field 0 (.t 6), none⟩,
            ⟨(some 28), .load none (.t 27), none⟩,
            ⟨(some 29), .buildSlice 4 1 1 [(.str [])] [(0, (.t 28))], none⟩,
            ⟨(some 30), .append 5 1 16 (.t 26) (.t 29), none⟩,
            ⟨(some 3), .mov (.t 30), none⟩])
          (.region [⟨(some 31), .mov (.t 4), none⟩,
            ⟨(some 32), .field 0 (.t 6), none⟩,
            ⟨(some 33), .load none (.t 32), none⟩,
            ⟨(some 34), .field 1 (.t 6), none⟩,
            ⟨(some 35), .load none (.t 34), none⟩,
            ⟨(some 36), .bin .sub .num (.t 35) (.c (.int .i64 1)), none⟩,
            ⟨(some 37), .build [(.str []), (.int .i64 0)] [(0, 1, (.t 33)), (1, 1, (.t 36))], none⟩,
            ⟨(some 38), .buildSlice 6 2 1 [(.str []), (.int .i64 0)] [(0, (.t 37))], none⟩,
            ⟨(some 39), .append 7 2 24 (.t 31) (.t 38), none⟩,
            ⟨(some 4), .mov (.t 39), none⟩])) <|
      .region [⟨(some 14), .mov (.t 5), none⟩,
        ⟨(some 15), .bin .add .num (.t 14) (.c (.int .i64 1)), none⟩,
        ⟨(some 5), .mov (.t 15), none⟩]) <|
  .seq (.region [⟨(some 40), .mov (.t 0), none⟩,
    ⟨(some 41), .mov (.t 4), none⟩,
    ⟨(some 42), .nilCheck (.t 40), none⟩,
    ⟨(some 43), .field 0 (.t 42), none⟩,
    ⟨none, .store 1 (.t 43) (.t 41), none⟩]) <|
  .seq (.region [⟨(some 44), .mov (.t 3), none⟩,
    ⟨(some 2), .mov (.t 44), none⟩]) <|
  .ret
def vf18 : VFun := ⟨45, 8, vb18, [.tmp 2], false⟩
theorem cf18 : cFun Go.Proofs.Try.prog rawF false Go.Proofs.Try.f18 = some vf18 := by kernel_rfl
theorem T18 {args : List PV} {σ : VHeap} {Post : KP} (h : vfun Go.Proofs.Try.prog vf18 args σ Post) : T Go.Proofs.Try.prog 18 args σ Post := T_of Go.Proofs.Try.func18 cf18 h

/-- (*vinery/timer.Timers).Clear -/
def vb19 : VC :=
  .region [⟨(some 2), .mov (.t 0), none⟩,
    ⟨(some 3), .nilCheck (.t 2), none⟩,
    ⟨(some 4), .field 0 (.t 3), none⟩,
    ⟨(some 5), .load none (.t 4), none⟩,
    ⟨none, .clearMap (.t 5), none⟩]
def vf19 : VFun := ⟨6, 0, vb19, [], false⟩
theorem cf19 : cFun Go.Proofs.Try.prog rawF false Go.Proofs.Try.f19 = some vf19 := by kernel_rfl
theorem T19 {args : List PV} {σ : VHeap} {Post : KP} (h : vfun Go.Proofs.Try.prog vf19 args σ Post) : T Go.Proofs.Try.prog 19 args σ Post := T_of Go.Proofs.Try.func19 cf19 h

/-- (*vinery/vineryref13.Timers).Clear -/
def vb20 : VC :=
  .region [⟨(some 2), .mov (.t 0), none⟩,
    ⟨(some 3), .nilCheck (.t 2), none⟩,
    ⟨(some 4), .field 0 (.t 3), none⟩,
    ⟨none, .store 1 (.t 4) (.c .nils), none⟩]
def vf20 : VFun := ⟨5, 0, vb20, [], false⟩
theorem cf20 : cFun Go.Proofs.Try.prog rawF false Go.Proofs.Try.f20 = some vf20 := by kernel_rfl
theorem T20 {args : List PV} {σ : VHeap} {Post : KP} (h : vfun Go.Proofs.Try.prog vf20 args σ Post) : T Go.Proofs.Try.prog 20 args σ Post := T_of Go.Proofs.Try.func20 cf20 h

/-- (*vinery/timer.Timers).Next -/
def vb21 : VC :=
  .seq (.region [⟨(some 2), .mov (.c (.int .i64 0)), none⟩,
    ⟨(some 3), .mov (.c (.bool false)), none⟩]) <|
  .seq (.region [⟨(some 4), .mov (.c (.int .i64 0)), none⟩,
    ⟨(some 5), .mov (.c (.bool false)), none⟩]) <|
  .seq (.seq (.region [⟨(some 8), .mov (.t 0), none⟩,
    ⟨(some 9), .nilCheck (.t 8), none⟩,
    ⟨(some 10), .field 0 (.t 9), none⟩,
    ⟨(some 11), .load none (.t 10), none⟩,
    ⟨(some 12), .rangeMap 0 (.t 11), none⟩]) <|
  .block 0 <|
    .loop <|
      .seq (.region [⟨(some 13), .nextMap (.t 12), none⟩,
        ⟨(some 14), .extract 0 (.t 13), none⟩]) <|
      .seq (.cond (.t 14)
        (.skip)
        (.exit 0)) <|
      .block 1 <|
        .seq (.region [⟨(some 15), .entry (.t 12), none⟩,
          ⟨(some 16), .extract 1 (.t 15), none⟩,
          ⟨(some 7), .mov (.t 16), none⟩]) <|
        .seq (.region [⟨(some 17), .mov (.t 5), none⟩,
          ⟨(some 18), .un .not (.t 17), none⟩,
          ⟨(some 19), .mov (.t 18), none⟩,
          ⟨(some 20), .mov (.t 7), some (19, false)⟩,
          ⟨(some 21), .mov (.t 4), some (19, false)⟩,
          ⟨(some 22), .bin .lss .num (.t 20) (.t 21), some (19, false)⟩,
          ⟨(some 23), .pick (.t 19) (.c (.bool true)) (.t 22), none⟩]) <|
        .cond (.t 23)
          (.region [⟨(some 24), .mov (.t 7), none⟩,
            ⟨(some 4), .mov (.t 24), none⟩,
            ⟨(some 5), .mov (.c (.bool true)), none⟩])
          (.skip)) <|
  .seq (.region [⟨(some 25), .mov (.t 4), none⟩,
    ⟨(some 26), .mov (.t 5), none⟩,
    ⟨(some 2), .mov (.t 25), none⟩,
    ⟨(some 3), .mov (.t 26), none⟩]) <|
  .ret
def vf21 : VFun := ⟨27, 1, vb21, [.tmp 2, .tmp 3], false⟩
theorem cf21 : cFun Go.Proofs.Try.prog rawF false Go.Proofs.Try.f21 = some vf21 := by kernel_rfl
theorem T21 {args : List PV} {σ : VHeap} {Post : KP} (h : vfun Go.Proofs.Try.prog vf21 args σ Post) : T Go.Proofs.Try.prog 21 args σ Post := T_of Go.Proofs.Try.func21 cf21 h

/-- (*vinery/vineryref13.Timers).Next -/
def vb22 : VC :=
  .seq (.region [⟨(some 2), .mov (.c (.int .i64 0)), none⟩,
    ⟨(some 3), .mov (.c (.bool false)), none⟩]) <|
  .seq (.seq (.region [⟨(some 6), .mov (.t 0), none⟩,
    ⟨(some 7), .nilCheck (.t 6), none⟩,
    ⟨(some 8), .field 0 (.t 7), none⟩,
    ⟨(some 9), .load none (.t 8), none⟩,
    ⟨(some 10), .len (.t 9), none⟩,
    ⟨(some 11), .bin .eql .num (.t 10) (.c (.int .i64 0)), none⟩]) <|
  .cond (.t 11)
    (.seq (.region [⟨(some 2), .mov (.c (.int .i64 0)), none⟩,
      ⟨(some 3), .mov (.c (.bool false)), none⟩]) <|
    .ret)
    (.skip)) <|
  .seq (.region [⟨(some 12), .mov (.t 0), none⟩,
    ⟨(some 13), .nilCheck (.t 12), none⟩,
    ⟨(some 14), .field 0 (.t 13), none⟩,
    ⟨(some 15), .load none (.t 14), none⟩,
    ⟨(some 16), .index 2 (.t 15) (.c (.int .i64 0)), none⟩,
    ⟨(some 17), .field 1 (.t 16), none⟩,
    ⟨(some 18), .load none (.t 17), none⟩,
    ⟨(some 4), .mov (.t 18), none⟩]) <|
  .seq (.seq (.region [⟨(some 5), .mov (.c (.int .i64 1)), none⟩]) <|
  .block 0 <|
    .loop <|
      .seq (.seq (.region [⟨(some 19), .mov (.t 5), none⟩,
        ⟨(some 20), .mov (.t 0), none⟩,
        ⟨(some 21), .nilCheck (.t 20), none⟩,
        ⟨(some 22), .field 0 (.t 21), none⟩,
        ⟨(some 23), .load none (.t 22), none⟩,
        ⟨(some 24), .len (.t 23), none⟩,
        ⟨(some 25), .bin .lss .num (.t 19) (.t 24), none⟩]) <|
      .cond (.t 25)
        (.skip)
        (.exit 0)) <|
      .seq (.block 1 <|
        .region [⟨(some 28), .mov (.t 4), none⟩,
          ⟨(some 29), .mov (.t 0), none⟩,
          ⟨(some 30), .nilCheck (.t 29), none⟩,
          ⟨(some 31), .field 0 (.t 30), none⟩,
          ⟨(some 32), .load none (.t 31), none⟩,
          ⟨(some 33), .mov (.t 5), none⟩,
          ⟨(some 34), .index 2 (.t 32) (.t 33), none⟩,
          ⟨(some 35), .field 1 (.t 34), none⟩,
          ⟨(some 36), .load none (.t 35), none⟩,
          ⟨(some 37), .minmax false (.t 28) (.t 36), none⟩,
          ⟨(some 4), .mov (.t 37), none⟩]) <|
      .region [⟨(some 26), .mov (.t 5), none⟩,
        ⟨(some 27), .bin .add .num (.t 26) (.c (.int .i64 1)), none⟩,
        ⟨(some 5), .mov (.t 27), none⟩]) <|
  .seq (.region [⟨(some 38), .mov (.t 4), none⟩,
    ⟨(some 2), .mov (.t 38), none⟩,
    ⟨(some 3), .mov (.c (.bool true)), none⟩]) <|
  .ret
def vf22 : VFun := ⟨39, 0, vb22, [.tmp 2, .tmp 3], false⟩
theorem cf22 : cFun Go.Proofs.Try.prog rawF false Go.Proofs.Try.f22 = some vf22 := by kernel_rfl
theorem T22 {args : List PV} {σ : VHeap} {Post : KP} (h : vfun Go.Proofs.Try.prog vf22 args σ Post) : T Go.Proofs.Try.prog 22 args σ Post := T_of Go.Proofs.Try.func22 cf22 h

/-- vinery/vinerylaw13.play -/
def vb23 : VC :=
  .seq (.region [⟨(some 3), .box 0 (.t 1), none⟩]) <|
  .seq (.region [⟨(some 4), .field 0 (.t 3), none⟩,
    ⟨(some 5), .load none (.t 4), none⟩]) <|
  .block 0 <|
    .seq (.region [⟨(some 7), .bin .eql .num (.t 5) (.c (.int .i64 0)), none⟩,
      ⟨(some 6), .mov (.t 7), none⟩]) <|
    .cond (.t 6)
      (.region [⟨(some 8), .mov (.t 0), none⟩,
        ⟨(some 9), .field 1 (.t 3), none⟩,
        ⟨(some 10), .load none (.t 9), none⟩,
        ⟨(some 11), .field 2 (.t 3), none⟩,
        ⟨(some 12), .load none (.t 11), none⟩,
        ⟨(some 13), .call false 9 [(.t 8), (.t 10), (.t 12)], none⟩])
      (.seq (.region [⟨(some 15), .bin .eql .num (.t 5) (.c (.int .i64 1)), none⟩,
        ⟨(some 14), .mov (.t 15), none⟩]) <|
      .cond (.t 14)
        (.region [⟨(some 16), .mov (.t 0), none⟩,
          ⟨(some 17), .field 1 (.t 3), none⟩,
          ⟨(some 18), .load none (.t 17), none⟩,
          ⟨(some 19), .call false 11 [(.t 16), (.t 18)], none⟩])
        (.seq (.region [⟨(some 21), .bin .eql .num (.t 5) (.c (.int .i64 3)), none⟩,
          ⟨(some 20), .mov (.t 21), none⟩]) <|
        .cond (.t 20)
          (.region [⟨(some 22), .mov (.t 0), none⟩,
            ⟨(some 23), .call false 10 [(.t 22)], none⟩])
          (.seq (.region [⟨(some 25), .bin .eql .num (.t 5) (.c (.int .i64 5)), none⟩,
            ⟨(some 24), .mov (.t 25), none⟩]) <|
          .cond (.t 24)
            (.region [⟨(some 26), .mov (.t 0), none⟩,
              ⟨(some 27), .call false 19 [(.t 26)], none⟩])
            (.skip))))
def vf23 : VFun := ⟨28, 1, vb23, [], false⟩
theorem cf23 : cFun Go.Proofs.Try.prog rawF false Go.Proofs.Try.f23 = some vf23 := by kernel_rfl
theorem T23 {args : List PV} {σ : VHeap} {Post : KP} (h : vfun Go.Proofs.Try.prog vf23 args σ Post) : T Go.Proofs.Try.prog 23 args σ Post := T_of Go.Proofs.Try.func23 cf23 h

/-- slices.Sort[[]string,string] -/
def vb24 : VC :=
  .seq (.region [⟨(some 3), .mov (.t 0), none⟩,
    ⟨(some 4), .len (.t 3), none⟩,
    ⟨(some 2), .mov (.t 4), none⟩]) <|
  .region [⟨(some 5), .mov (.t 0), none⟩,
    ⟨(some 6), .mov (.t 2), none⟩,
    ⟨(some 7), .mov (.t 2), none⟩,
    ⟨(some 8), .convInt .u64 (.t 7), none⟩,
    ⟨(some 9), .call false 27 [(.t 8)], none⟩,
    ⟨(some 10), .call false 26 [(.t 5), (.c (.int .i64 0)), (.t 6), (.t 9)], none⟩]
def vf24 : VFun := ⟨11, 0, vb24, [], true⟩
theorem cf24 : cFun Go.Proofs.Try.prog rawF true Go.Proofs.Try.f24 = some vf24 := by kernel_rfl
theorem T24 {args : List PV} {σ : VHeap} {Post : KP} (h : vfun Go.Proofs.Try.prog vf24 args σ Post) : T Go.Proofs.Try.prog 24 args σ Post := T_of Go.Proofs.Try.func24 cf24 h

/-- (*vinery/vineryref13.Timers).at -/
def vb25 : VC :=
  .seq (.region [⟨(some 4), .mov (.c (.int .i64 0)), none⟩]) <|
  .seq (.region [⟨(some 5), .mov (.c (.int .i64 0)), none⟩]) <|
  .seq (.block 0 <|
    .loop <|
      .seq (.seq (.region [⟨(some 6), .mov (.t 5), none⟩,
        ⟨(some 7), .mov (.t 0), none⟩,
        ⟨(some 8), .nilCheck (.t 7), none⟩,
        ⟨(some 9), .field 0 (.t 8), none⟩,
        ⟨(some 10), .load none (.t 9), none⟩,
        ⟨(some 11), .len (.t 10), none⟩,
        ⟨(some 12), .bin .lss .num (.t 6) (.t 11), none⟩,
        ⟨(some 13), .mov (.t 12), none⟩,
        ⟨(some 14), .mov (.t 0), some (13, true)⟩,
        ⟨(some 15), .nilCheck (.t 14), some (13, true)⟩,
        ⟨(some 16), .field 0 (.t 15), some (13, true)⟩,
        ⟨(some 17), .load none (.t 16), some (13, true)⟩,
        ⟨(some 18), .mov (.t 5), some (13, true)⟩,
        ⟨(some 19), .index 2 (.t 17) (.t 18), some (13, true)⟩,
        ⟨(some 20), .field 0 (.t 19), some (13, true)⟩,
        ⟨(some 21), .load none (.t 20), some (13, true)⟩,
        ⟨(some 22), .mov (.t 1), some (13, true)⟩,
        ⟨(some 23), .bin .lss .num (.t 21) (.t 22), some (13, true)⟩,
        ⟨(some 24), .pick (.t 13) (.t 23) (.c (.bool false)), none⟩]) <|
      .cond (.t 24)
        (.skip)
        (.exit 0)) <|
      .block 1 <|
        .region [⟨(some 25), .mov (.t 5), none⟩,
          ⟨(some 26), .bin .add .num (.t 25) (.c (.int .i64 1)), none⟩,
          ⟨(some 5), .mov (.t 26), none⟩]) <|
  .seq (.region [⟨(some 27), .mov (.t 5), none⟩,
    ⟨(some 4), .mov (.t 27), none⟩]) <|
  .ret
def vf25 : VFun := ⟨28, 0, vb25, [.tmp 4], false⟩
theorem cf25 : cFun Go.Proofs.Try.prog rawF false Go.Proofs.Try.f25 = some vf25 := by kernel_rfl
theorem T25 {args : List PV} {σ : VHeap} {Post : KP} (h : vfun Go.Proofs.Try.prog vf25 args σ Post) : T Go.Proofs.Try.prog 25 args σ Post := T_of Go.Proofs.Try.func25 cf25 h

end Go.Proofs.Ytdkjcadffhnjgaa
