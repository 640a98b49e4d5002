/- Functions of the program, in the small language. -/
import Derived.Test.YtjhmobdncjhcnaaGreatDoorVZ
namespace Go.Proofs.YtjhmobdncjhcnaaGreatDoor
open Go Go.V D
variable {args : List PV} {σ : VHeap} {Post : KP}
@[reducible] def vb195 : VC :=
  .seq (.region [m 4 (.mov (.c (.str [])))]) <|
  .seq (.seq (.region [m 10 (.mov (t 1)), m 11 (.bin .eql .num (t 10) (.c (i 10)))]) <|
  .cond (t 11) (.seq (.seq (.region [m 12 (.mov (t 0)), m 13 (.bin .leq .num (.c q) (t 12)), m 14 (.mov (t 13)), g 15 14 true (.mov (t 0)), g 16 14 true (.bin .lss .num (t 15) (.c (i 100))), m 17 (.pick (t 14) (t 16) (.c (.bool false)))]) <|
  .cond (t 17) (.seq (.region [m 18 (.mov (t 0)), m 19 (.call false 215 [(t 18)]), m 4 (.mov (t 19))]) <|
  .ret) (.skip)) <|
  .seq (.region [m 5 (.alloc 0 [o, o, o, o, o, o, o, o, o, o, o, o, o, o, o, o, o, o, o, o, o, o, o, o])]) <|
  .seq (.region [m 20 (.mov (t 0)), m 21 (.convInt .u64 (t 20)), m 6 (.mov (t 21))]) <|
  .seq (.seq (.region [m 22 (.mov (t 0)), m 23 (.bin .lss .num (t 22) (.c q))]) <|
  .cond (t 23) (.region [m 24 (.mov (t 6)), m 25 (.un .neg (t 24)), m 6 (.mov (t 25))]) (.skip)) <|
  .seq (.region [m 26 (.mov (t 6)), m 27 (.call false 216 [(t 26)]), m 7 (.mov (t 27))]) <|
  .seq (.region [m 28 (.mov (t 7)), m 29 (.bin .add .num (.c (i 1)) (t 28)), m 30 (.sliceArr 24 1 (t 5) (some (.c (i 1))) (some (t 29))), m 31 (.mov (t 6)), m 32 (.call false 217 [(t 30), (t 31)])]) <|
  .seq (.seq (.region [m 33 (.mov (t 0)), m 34 (.bin .lss .num (t 33) (.c q))]) <|
  .cond (t 34) (.seq (.region [m 35 (.indexArr 24 1 (t 5) (.c q)), e (.store 1 (t 35) (.c (b 45)))]) <|
  .seq (.region [m 36 (.mov (t 7)), m 37 (.bin .add .num (.c (i 1)) (t 36)), m 38 (.sliceArr 24 1 (t 5) none (some (t 37))), m 39 (.b2s (t 38)), m 4 (.mov (t 39))]) <|
  .ret) (.skip)) <|
  .seq (.region [m 40 (.mov (t 7)), m 41 (.bin .add .num (.c (i 1)) (t 40)), m 42 (.sliceArr 24 1 (t 5) (some (.c (i 1))) (some (t 41))), m 43 (.b2s (t 42)), m 4 (.mov (t 43))]) <|
  .ret) (.skip)) <|
  .seq (.region [m 45 (.mov (t 0)), m 46 (.convInt .u64 (t 45)), m 47 (.mov (t 1)), m 48 (.mov (t 0)), m 49 (.bin .lss .num (t 48) (.c q)), m 50 (.call false 218 [(.c .nils), (t 46), (t 47), (t 49), (.c (.bool false))]), m 44 (.mov (t 50)), m 51 (.extract 0 (t 44)), m 52 (.extract 1 (t 44)), m 8 (.mov (t 51)), m 9 (.mov (t 52))]) <|
  .seq (.region [m 53 (.mov (t 9)), m 4 (.mov (t 53))]) <|
  .ret
def vf195 : VFun := ⟨54, 1, vb195, [.tmp 4], false⟩
theorem cf195 : cFun Tryz.prog rawF false Tryz.f195 = some vf195 := by kernel_rfl
theorem T195 (h : HT σ args Post vb195 vf195 [dd]) (hl : args.length ≤ 54 := by exact Nat.le_of_ble_eq_true rfl) : T Tryz.prog 195 args σ Post := T.walk Tryz.func195 cf195 hl rfl h
@[reducible] def vb218 : VC :=
  .seq (.region [m 10 (.newRow 0 1), m 11 (.mov (.c (.str [])))]) <|
  .seq (.seq (.region [m 19 (.mov (t 2)), m 20 (.bin .lss .num (t 19) (.c (i 2))), m 21 (.mov (t 20)), g 22 21 false (.mov (t 2)), g 23 21 false (.bin .eql .num (t 22) (.c (i 10))), m 24 (.pick (t 21) (.c (.bool true)) (t 23)), m 25 (.mov (t 24)), g 26 25 false (.mov (t 2)), g 27 25 false (.bin .gtr .num (t 26) (.c (i 36))), m 28 (.pick (t 25) (.c (.bool true)) (t 27))]) <|
  .cond (t 28) (.region [m 29 (.bad), e (.bad)]) (.skip)) <|
  .seq (.region [m 12 (.alloc 1 (List.replicate 65 o))]) <|
  .seq (.region [m 13 (.mov (.c (i 65)))]) <|
  .seq (.seq (.region [m 30 (.mov (t 3))]) <|
  .cond (t 30) (.region [m 31 (.mov (t 1)), m 32 (.un .neg (t 31)), m 1 (.mov (t 32))]) (.skip)) <|
  .seq (.seq (.region [m 33 (.mov (t 2)), m 34 (.call false 244 [(t 33)])]) <|
  .cond (t 34) (.seq (.region [m 35 (.mov (t 2)), m 36 (.convInt .u64 (t 35)), m 37 (.call false 245 [(t 36)]), m 38 (.convInt .u64 (t 37)), m 14 (.mov (t 38))]) <|
  .seq (.region [m 39 (.mov (t 2)), m 40 (.convInt .u64 (t 39)), m 15 (.mov (t 40))]) <|
  .seq (.region [m 41 (.mov (t 2)), m 42 (.convInt .u64 (t 41)), m 43 (.bin .sub .num (t 42) (.c (.int .u64 1))), m 16 (.mov (t 43))]) <|
  .seq (.block 0 <| .loop <| .seq (.seq (.region [m 44 (.mov (t 1)), m 45 (.mov (t 15)), m 46 (.bin .geq .num (t 44) (t 45))]) <|
  .cond (t 46) (.skip) (.exit 0)) <|
  .block 1 <| .seq (.region [m 47 (.mov (t 13)), m 48 (.bin .sub .num (t 47) (.c (i 1))), m 13 (.mov (t 48))]) <|
  .seq (.region [m 49 (.mov (t 13)), m 50 (.mov (t 1)), m 51 (.mov (t 16)), m 52 (.bin .and .num (t 50) (t 51)), m 53 (.indexStr (.c (.str [48, 49, 50, 51, 52, 53, 54, 55, 56, 57, 97, 98, 99, 100, 101, 102, 103, 104, 105, 106, 107, 108, 109, 110, 111, 112, 113, 114, 115, 116, 117, 118, 119, 120, 121, 122])) (t 52)), m 54 (.indexArr 65 1 (t 12) (t 49)), e (.store 1 (t 54) (t 53))]) <|
  .region [m 55 (.mov (t 1)), m 56 (.mov (t 14)), m 57 (.bin .shr .num (t 55) (t 56)), m 1 (.mov (t 57))]) <|
  .seq (.region [m 58 (.mov (t 13)), m 59 (.bin .sub .num (t 58) (.c (i 1))), m 13 (.mov (t 59))]) <|
  .region [m 60 (.mov (t 13)), m 61 (.mov (t 1)), m 62 (.indexStr (.c (.str [48, 49, 50, 51, 52, 53, 54, 55, 56, 57, 97, 98, 99, 100, 101, 102, 103, 104, 105, 106, 107, 108, 109, 110, 111, 112, 113, 114, 115, 116, 117, 118, 119, 120, 121, 122])) (t 61)), m 63 (.indexArr 65 1 (t 12) (t 60)), e (.store 1 (t 63) (t 62))]) (.seq (.region [m 64 (.mov (t 2)), m 65 (.convInt .u64 (t 64)), m 17 (.mov (t 65))]) <|
  .seq (.block 2 <| .loop <| .seq (.seq (.region [m 66 (.mov (t 1)), m 67 (.mov (t 17)), m 68 (.bin .geq .num (t 66) (t 67))]) <|
  .cond (t 68) (.skip) (.exit 2)) <|
  .block 3 <| .seq (.region [m 69 (.mov (t 13)), m 70 (.bin .sub .num (t 69) (.c (i 1))), m 13 (.mov (t 70))]) <|
  .seq (.region [m 71 (.mov (t 1)), m 72 (.mov (t 17)), m 73 (.bin .quo .num (t 71) (t 72)), m 18 (.mov (t 73))]) <|
  .seq (.region [m 74 (.mov (t 13)), m 75 (.mov (t 1)), m 76 (.mov (t 18)), m 77 (.mov (t 17)), m 78 (.bin .mul .num (t 76) (t 77)), m 79 (.bin .sub .num (t 75) (t 78)), m 80 (.indexStr (.c (.str [48, 49, 50, 51, 52, 53, 54, 55, 56, 57, 97, 98, 99, 100, 101, 102, 103, 104, 105, 106, 107, 108, 109, 110, 111, 112, 113, 114, 115, 116, 117, 118, 119, 120, 121, 122])) (t 79)), m 81 (.indexArr 65 1 (t 12) (t 74)), e (.store 1 (t 81) (t 80))]) <|
  .region [m 82 (.mov (t 18)), m 1 (.mov (t 82))]) <|
  .seq (.region [m 83 (.mov (t 13)), m 84 (.bin .sub .num (t 83) (.c (i 1))), m 13 (.mov (t 84))]) <|
  .region [m 85 (.mov (t 13)), m 86 (.mov (t 1)), m 87 (.indexStr (.c (.str [48, 49, 50, 51, 52, 53, 54, 55, 56, 57, 97, 98, 99, 100, 101, 102, 103, 104, 105, 106, 107, 108, 109, 110, 111, 112, 113, 114, 115, 116, 117, 118, 119, 120, 121, 122])) (t 86)), m 88 (.indexArr 65 1 (t 12) (t 85)), e (.store 1 (t 88) (t 87))])) <|
  .seq (.seq (.region [m 89 (.mov (t 3))]) <|
  .cond (t 89) (.seq (.region [m 90 (.mov (t 13)), m 91 (.bin .sub .num (t 90) (.c (i 1))), m 13 (.mov (t 91))]) <|
  .region [m 92 (.mov (t 13)), m 93 (.indexArr 65 1 (t 12) (t 92)), e (.store 1 (t 93) (.c (b 45)))]) (.skip)) <|
  .seq (.seq (.region [m 94 (.mov (t 4))]) <|
  .cond (t 94) (.seq (.region [m 95 (.mov (t 0)), m 96 (.mov (t 13)), m 97 (.sliceArr 65 1 (t 12) (some (t 96)) none), m 98 (.append 2 1 1 (t 95) (t 97)), m 10 (.mov (t 98))]) <|
  .ret) (.skip)) <|
  .seq (.region [m 99 (.mov (t 13)), m 100 (.sliceArr 65 1 (t 12) (some (t 99)) none), m 101 (.b2s (t 100)), m 11 (.mov (t 101))]) <|
  .ret
def vf218 : VFun := ⟨102, 3, vb218, [.tmp 10, .tmp 11], false⟩
theorem cf218 : cFun Tryz.prog rawF false Tryz.f218 = some vf218 := by kernel_rfl
theorem T218 (h : HT σ args Post vb218 vf218 [dd, dd, dd]) (hl : args.length ≤ 102 := by exact Nat.le_of_ble_eq_true rfl) : T Tryz.prog 218 args σ Post := T.walk Tryz.func218 cf218 hl rfl h
@[reducible] def vb214 : VC :=
  .seq (.region [m 4 (.mov (.c (.str [])))]) <|
  .seq (.region [m 5 (.mov (t 0)), m 6 (.mov (t 1)), m 7 (.call false 195 [(t 5), (t 6)]), m 4 (.mov (t 7))]) <|
  .ret
def vf214 : VFun := ⟨8, 0, vb214, [.tmp 4], false⟩
theorem cf214 : cFun Tryz.prog rawF false Tryz.f214 = some vf214 := by kernel_rfl
theorem T214 (h : HT σ args Post vb214 vf214 []) (hl : args.length ≤ 8 := by exact Nat.le_of_ble_eq_true rfl) : T Tryz.prog 214 args σ Post := T.walk Tryz.func214 cf214 hl rfl h
@[reducible] def vb244 : VC :=
  .seq (.region [m 2 (.mov (.c (.bool false)))]) <|
  .seq (.region [m 3 (.mov (t 0)), m 4 (.mov (t 0)), m 5 (.bin .sub .num (t 4) (.c (i 1))), m 6 (.bin .and .num (t 3) (t 5)), m 7 (.bin .eql .num (t 6) (.c q)), m 2 (.mov (t 7))]) <|
  .ret
def vf244 : VFun := ⟨8, 0, vb244, [.tmp 2], false⟩
theorem cf244 : cFun Tryz.prog rawF false Tryz.f244 = some vf244 := by kernel_rfl
theorem T244 (h : HT σ args Post vb244 vf244 []) (hl : args.length ≤ 8 := by exact Nat.le_of_ble_eq_true rfl) : T Tryz.prog 244 args σ Post := T.walk Tryz.func244 cf244 hl rfl h
@[reducible] def vb245 : VC :=
  .seq (.region [m 2 (.mov (.c q))]) <|
  .seq (.cond (.c (.bool false)) (.seq (.region [m 3 (.mov (t 0)), m 4 (.convInt .u32 (t 3)), m 5 (.call false 258 [(t 4)]), m 2 (.mov (t 5))]) <|
  .ret) (.skip)) <|
  .seq (.region [m 6 (.mov (t 0)), m 7 (.call false 259 [(t 6)]), m 2 (.mov (t 7))]) <|
  .ret
def vf245 : VFun := ⟨8, 0, vb245, [.tmp 2], false⟩
theorem cf245 : cFun Tryz.prog rawF false Tryz.f245 = some vf245 := by kernel_rfl
theorem T245 (h : HT σ args Post vb245 vf245 []) (hl : args.length ≤ 8 := by exact Nat.le_of_ble_eq_true rfl) : T Tryz.prog 245 args σ Post := T.walk Tryz.func245 cf245 hl rfl h
@[reducible] def vb259 : VC :=
  .seq (.region [m 2 (.mov (.c q))]) <|
  .seq (.seq (.region [m 3 (.mov (t 0)), m 4 (.bin .eql .num (t 3) (.c (.int .u64 0)))]) <|
  .cond (t 4) (.seq (.region [m 2 (.mov (.c (i 64)))]) <|
  .ret) (.skip)) <|
  .seq (.region [m 5 (.mov (t 0)), m 6 (.mov (t 0)), m 7 (.un .neg (t 6)), m 8 (.bin .and .num (t 5) (t 7)), m 9 (.bin .mul .num (t 8) (.c (.int .u64 285870213051353865))), m 10 (.bin .shr .num (t 9) (.c (.int .u64 58))), m 11 (.indexArr 64 1 (.c (.iptr gt5 0)) (t 10)), m 12 (.load none (t 11)), m 13 (.convInt .i64 (t 12)), m 2 (.mov (t 13))]) <|
  .ret
def vf259 : VFun := ⟨14, 0, vb259, [.tmp 2], false⟩
theorem cf259 : cFun Tryz.prog rawF false Tryz.f259 = some vf259 := by kernel_rfl
theorem T259 (h : HT σ args Post vb259 vf259 []) (hl : args.length ≤ 14 := by exact Nat.le_of_ble_eq_true rfl) : T Tryz.prog 259 args σ Post := T.walk Tryz.func259 cf259 hl rfl h
end Go.Proofs.YtjhmobdncjhcnaaGreatDoor
