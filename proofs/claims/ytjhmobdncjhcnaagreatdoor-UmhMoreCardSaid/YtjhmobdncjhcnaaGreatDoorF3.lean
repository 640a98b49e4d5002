/- Functions of the program, in the small language. -/
import Derived.Test.YtjhmobdncjhcnaaGreatDoorF1
namespace Go.Proofs.YtjhmobdncjhcnaaGreatDoor
open Go Go.V D
variable {args : List PV} {σ : VHeap} {Post : KP}
@[reducible] def vb144 : VC :=
  .seq (.region [m 2 (.alloc 0 [(.bool false), (.bool false), (.bool false), (.bool false)]), m 3 (.mov (.c (.bool false)))]) <|
  .seq (.region [m 5 (.build [(.bool false), (.bool false), (.bool false), (.bool false)] [(0, 1, (.c (.bool true))), (3, 1, (.c (.bool true)))]), m 6 (.build [(.bool false), (.bool false), (.bool false), (.bool false)] [(0, 1, (.c (.bool true))), (1, 1, (.c (.bool true)))]), m 7 (.build [(.bool false), (.bool false), (.bool false), (.bool false)] [(0, 1, (.c (.bool true))), (2, 1, (.c (.bool true))), (3, 1, (.c (.bool true)))]), m 8 (.build [(.bool false), (.bool false), (.bool false), (.bool false)] [(3, 1, (.c (.bool true)))]), m 9 (.build [(.bool false), (.bool false), (.bool false), (.bool false)] [(0, 1, (.c (.bool true))), (2, 1, (.c (.bool true)))]), m 10 (.build [(.bool false), (.bool false), (.bool false), (.bool false)] [(0, 1, (.c (.bool true))), (1, 1, (.c (.bool true))), (2, 1, (.c (.bool true)))]), m 11 (.build [(.bool false), (.bool false), (.bool false), (.bool false)] [(0, 1, (.c (.bool true))), (1, 1, (.c (.bool true))), (2, 1, (.c (.bool true)))]), m 12 (.build [(.bool false), (.bool false), (.bool false), (.bool false), (.bool false), (.bool false), (.bool false), (.bool false), (.bool false), (.bool false), (.bool false), (.bool false), (.bool false), (.bool false), (.bool false), (.bool false), (.bool false), (.bool false), (.bool false), (.bool false), (.bool false), (.bool false), (.bool false), (.bool false), (.bool false), (.bool false), (.bool false), (.bool false), (.bool false), (.bool false), (.bool false), (.bool false)] [(4, 4, (t 5)), (8, 4, (t 6)), (12, 4, (t 7)), (16, 4, (t 8)), (20, 4, (t 9)), (24, 4, (t 10)), (28, 4, (t 11))]), m 4 (.alloc 1 (List.replicate 32 (.bool false))), e (.store 32 (t 4) (t 12))]) <|
  .seq (.seq (.region [m 13 (.mov (t 0)), m 14 (.bin .lss .num (t 13) (.c (i 1))), m 15 (.mov (t 14)), g 16 15 false (.mov (t 0)), g 17 15 false (.bin .geq .num (t 16) (.c (i 8))), m 18 (.pick (t 15) (.c (.bool true)) (t 17))]) <|
  .cond (t 18) (.seq (.region [m 19 (.build [(.bool false), (.bool false), (.bool false), (.bool false)] []), e (.store 4 (t 2) (t 19)), m 3 (.mov (.c (.bool false)))]) <|
  .ret) (.skip)) <|
  .seq (.region [m 20 (.mov (t 0)), m 21 (.indexArr 8 4 (t 4) (t 20)), m 22 (.load (some 4) (t 21)), e (.store 4 (t 2) (t 22)), m 3 (.mov (.c (.bool true)))]) <|
  .ret
def vf144 : VFun := ⟨23, 2, vb144, [.cell 2 (some 4), .tmp 3], false⟩
theorem cf144 : cFun Tryz.prog rawF false Tryz.f144 = some vf144 := by kernel_rfl
theorem T144 (h : HT σ args Post vb144 vf144 [dd, dd]) (hl : args.length ≤ 23 := by exact Nat.le_of_ble_eq_true rfl) : T Tryz.prog 144 args σ Post := T.walk Tryz.func144 cf144 hl rfl h
@[reducible] def vb184 : VC :=
  .seq (.region [m 2 (.box 0 (t 0)), m 3 (.box 1 (t 1)), m 4 (.alloc 2 [q, o, o, o, o, o, o, o, o, q, q, o, o, o, o, o, o, o, o, o, o, o, o, o, o, o, o, q, o, o, o, o, o, o, o, o, o, o, o, o, o, o, o, o, q, o, o, o, o, o, o, o, o, o, o, o, o, o, o, o, o, (.str [])])]) <|
  .seq (.region [m 6 (.field 0 (t 2)), m 7 (.load none (t 6)), m 8 (.build [q, o, o, o, o, o, o, o, o, q, q, o, o, o, o, o, o, o, o, o, o, o, o, o, o, o, o, q, o, o, o, o, o, o, o, o, o, o, o, o, o, o, o, o, q, o, o, o, o, o, o, o, o, o, o, o, o, o, o, o, o, (.str [])] [(0, 1, (t 7))]), m 5 (.alloc 3 [q, o, o, o, o, o, o, o, o, q, q, o, o, o, o, o, o, o, o, o, o, o, o, o, o, o, o, q, o, o, o, o, o, o, o, o, o, o, o, o, o, o, o, o, q, o, o, o, o, o, o, o, o, o, o, o, o, o, o, o, o, (.str [])]), e (.store 62 (t 5) (t 8))]) <|
  .seq (.seq (.region [m 9 (.field 0 (t 3)), m 10 (.load none (t 9))]) <|
  .cond (t 10) (.region [m 11 (.field 1 (t 2)), m 12 (.load (some 8) (t 11)), m 13 (.field 1 (t 5)), e (.store 8 (t 13) (t 12))]) (.skip)) <|
  .seq (.seq (.region [m 14 (.field 1 (t 3)), m 15 (.load none (t 14))]) <|
  .cond (t 15) (.region [m 16 (.field 9 (t 2)), m 17 (.load none (t 16)), m 18 (.field 9 (t 5)), e (.store 1 (t 18) (t 17))]) (.skip)) <|
  .seq (.seq (.region [m 19 (.field 2 (t 3)), m 20 (.load none (t 19))]) <|
  .cond (t 20) (.dreg [(m 21 (.field 10 (t 2)), []), (m 22 (.load (some 17) (t 21)), [0]), (m 23 (.field 27 (t 2)), []), (m 24 (.load (some 17) (t 23)), [2]), (m 25 (.field 10 (t 5)), [0, 1]), (e (.store 17 (t 25) (t 22)), [4, 1, 0, 1]), (m 26 (.field 27 (t 5)), [0, 1, 2, 3, 4, 5]), (e (.store 17 (t 26) (t 24)), [6, 3, 5, 0, 1, 2, 3, 4, 5])] [(1, 0), (1, 1), (2, 2), (2, 3), (1, 4), (0, 5), (1, 6), (0, 7)] [0, 1, 0, 4, 3, 19, 63, 127]) (.skip)) <|
  .seq (.seq (.region [m 27 (.field 3 (t 3)), m 28 (.load none (t 27))]) <|
  .cond (t 28) (.region [m 29 (.field 44 (t 2)), m 30 (.load (some 17) (t 29)), m 31 (.field 44 (t 5)), e (.store 17 (t 31) (t 30))]) (.skip)) <|
  .seq (.seq (.region [m 32 (.field 0 (t 2)), m 33 (.load none (t 32)), m 34 (.bin .eql .num (t 33) (.c (i 4)))]) <|
  .cond (t 34) (.region [m 35 (.field 61 (t 2)), m 36 (.load none (t 35)), m 37 (.field 61 (t 5)), e (.store 1 (t 37) (t 36))]) (.skip)) <|
  .seq (.region [m 38 (.load (some 62) (t 5)), e (.store 62 (t 4) (t 38))]) <|
  .ret
def vf184 : VFun := ⟨39, 4, vb184, [.cell 4 (some 62)], false⟩
theorem cf184 : cFun Tryz.prog rawF false Tryz.f184 = some vf184 := by kernel_rfl
theorem T184 (h : HT σ args Post vb184 vf184 [dd, dd, dd, dd]) (hl : args.length ≤ 39 := by exact Nat.le_of_ble_eq_true rfl) : T Tryz.prog 184 args σ Post := T.walk Tryz.func184 cf184 hl rfl h
@[reducible] def vb185 : VC :=
  .seq (.region [m 1 (.box 0 (t 0)), m 2 (.mov (.c (.bool false)))]) <|
  .seq (.region [m 3 (.load (some 17) (t 1)), m 4 (.call false 54 [(t 3)]), m 5 (.mov (t 4)), g 6 5 true (.field 0 (t 1)), g 7 5 true (.load none (t 6)), g 8 5 true (.bin .gtr .num (t 7) (.c q)), m 9 (.pick (t 5) (t 8) (.c (.bool false))), m 2 (.mov (t 9))]) <|
  .ret
def vf185 : VFun := ⟨10, 1, vb185, [.tmp 2], false⟩
theorem cf185 : cFun Tryz.prog rawF false Tryz.f185 = some vf185 := by kernel_rfl
theorem T185 (h : HT σ args Post vb185 vf185 [dd]) (hl : args.length ≤ 10 := by exact Nat.le_of_ble_eq_true rfl) : T Tryz.prog 185 args σ Post := T.walk Tryz.func185 cf185 hl rfl h
@[reducible] def vb186 : VC :=
  .seq (.region [m 3 (.box 0 (t 0)), m 4 (.box 1 (t 1)), m 6 (.mov (.c (.bool false)))]) <|
  .seq (.seq (.region [m 7 (.load (some 17) (t 3)), m 8 (.call false 54 [(t 7)]), m 9 (.un .not (t 8)), m 10 (.mov (t 9)), g 11 10 false (.load (some 17) (t 4)), g 12 10 false (.call false 54 [(t 11)]), g 13 10 false (.un .not (t 12)), m 14 (.pick (t 10) (.c (.bool true)) (t 13)), m 15 (.mov (t 14)), g 16 15 false (.load (some 17) (t 3)), g 17 15 false (.call false 65 [(t 16)]), m 18 (.pick (t 15) (.c (.bool true)) (t 17))]) <|
  .cond (t 18) (.seq (.region [m 6 (.mov (.c (.bool false)))]) <|
  .ret) (.skip)) <|
  .seq (.seq (.region [m 19 (.field 0 (t 4)), m 20 (.load none (t 19)), m 21 (.bin .gtr .num (t 20) (.c q)), m 22 (.mov (t 21)), g 23 22 true (.load (some 17) (t 4)), g 24 22 true (.call false 65 [(t 23)]), g 25 22 true (.un .not (t 24)), m 26 (.pick (t 22) (t 25) (.c (.bool false)))]) <|
  .cond (t 26) (.seq (.region [m 6 (.mov (.c (.bool false)))]) <|
  .ret) (.skip)) <|
  .seq (.seq (.region [m 27 (.mov (t 2)), m 28 (.mov (t 27)), g 29 28 true (.field 0 (t 3)), g 30 28 true (.load none (t 29)), g 31 28 true (.bin .eql .num (t 30) (.c q)), g 32 28 true (.mov (t 31)), g 33 32 false (.field 0 (t 4)), g 34 32 false (.load none (t 33)), g 35 32 false (.bin .eql .num (t 34) (.c q)), g 36 28 true (.pick (t 32) (.c (.bool true)) (t 35)), m 37 (.pick (t 28) (t 36) (.c (.bool false)))]) <|
  .cond (t 37) (.seq (.region [m 6 (.mov (.c (.bool true)))]) <|
  .ret) (.skip)) <|
  .seq (.region [m 38 (.field 0 (t 3)), m 39 (.load none (t 38)), m 40 (.bin .gtr .num (t 39) (.c q)), m 41 (.mov (t 40)), g 42 41 true (.field 0 (t 3)), g 43 41 true (.load none (t 42)), g 44 41 true (.field 0 (t 4)), g 45 41 true (.load none (t 44)), g 46 41 true (.bin .eql .num (t 43) (t 45)), m 47 (.pick (t 41) (t 46) (.c (.bool false))), m 6 (.mov (t 47))]) <|
  .ret
def vf186 : VFun := ⟨48, 2, vb186, [.tmp 6], false⟩
theorem cf186 : cFun Tryz.prog rawF false Tryz.f186 = some vf186 := by kernel_rfl
theorem T186 (h : HT σ args Post vb186 vf186 [dd, dd]) (hl : args.length ≤ 48 := by exact Nat.le_of_ble_eq_true rfl) : T Tryz.prog 186 args σ Post := T.walk Tryz.func186 cf186 hl rfl h
@[reducible] def vb145 : VC :=
  .seq (.region [m 1 (.box 0 (t 0)), m 2 (.newRow 1 1)]) <|
  .seq (.dreg [(m 3 (.field 0 (t 1)), []), (m 4 (.load none (t 3)), [0]), (m 5 (.bin .mul .num (.c (i 8)) (t 4)), [1]), (m 6 (.convInt .u8 (t 5)), [2]), (m 7 (.buildSlice 2 1 1 [o] [(0, (t 6))]), [3]), (m 8 (.load (some 17) (t 1)), []), (m 9 (.call false 57 [(t 8)]), [5]), (m 10 (.append 3 1 1 (t 7) (t 9)), [4, 6, 6]), (m 2 (.mov (t 10)), [7, 7, 0, 1, 2, 3, 4, 5, 6, 7])] [(1, 0), (1, 1), (2, 2), (2, 3), (2, 5), (2, 6), (0, 4), (0, 7), (2, 8)] [0, 1, 3, 7, 15, 0, 32, 127, 255]) <|
  .ret
def vf145 : VFun := ⟨11, 4, vb145, [.tmp 2], false⟩
theorem cf145 : cFun Tryz.prog rawF false Tryz.f145 = some vf145 := by kernel_rfl
theorem T145 (h : HT σ args Post vb145 vf145 [dd, dd, dd, dd]) (hl : args.length ≤ 11 := by exact Nat.le_of_ble_eq_true rfl) : T Tryz.prog 145 args σ Post := T.walk Tryz.func145 cf145 hl rfl h
@[reducible] def vb187 : VC :=
  .seq (.region [m 2 (.alloc 0 [q, o, o, o, o, o, o, o, o, q, q, o, o, o, o, o, o, o, o, o, o, o, o, o, o, o, o, q, o, o, o, o, o, o, o, o, o, o, o, o, o, o, o, o, q, o, o, o, o, o, o, o, o, o, o, o, o, o, o, o, o, (.str [])]), m 3 (.mov (.c (.bool false)))]) <|
  .seq (.seq (.region [m 8 (.mov (t 0)), m 9 (.bin .neq .num (t 8) (.c (.str []))), m 10 (.mov (t 9)), g 11 10 true (.mov (t 0)), g 12 10 true (.indexStr (t 11) (.c q)), g 13 10 true (.convInt .i64 (t 12)), g 14 10 true (.bin .eql .num (t 13) (.c (i 4))), m 15 (.pick (t 10) (t 14) (.c (.bool false)))]) <|
  .cond (t 15) (.seq (.region [m 16 (.build [q, o, o, o, o, o, o, o, o, q, q, o, o, o, o, o, o, o, o, o, o, o, o, o, o, o, o, q, o, o, o, o, o, o, o, o, o, o, o, o, o, o, o, o, q, o, o, o, o, o, o, o, o, o, o, o, o, o, o, o, o, (.str [])] []), e (.store 62 (t 2) (t 16)), m 3 (.mov (.c (.bool false)))]) <|
  .ret) (.skip)) <|
  .seq (.seq (.region [m 17 (.buildSlice 1 1 2 [q] [(0, (.c (i 4))), (1, (.c (i 16)))]), m 18 (.len (t 17)), m 19 (.mov (.c q))]) <|
  .block 0 <| .loop <| .seq (.region [m 20 (.bin .lss .num (t 19) (t 18))]) <|
  .seq (.cond (t 20) (.skip) (.exit 0)) <|
  .seq (.block 1 <| .seq (.region [m 21 (.index 1 (t 17) (t 19)), m 22 (.load none (t 21)), m 5 (.mov (t 22))]) <|
  .seq (.region [m 24 (.mov (t 0)), m 25 (.s2b 2 (t 24)), m 26 (.mov (t 5)), m 27 (.call false 171 [(t 25), (t 26)]), m 23 (.mov (t 27)), m 28 (.extract 0 (t 23)), m 29 (.extract 1 (t 23)), m 6 (.alloc 3 [q, o, o, o, o, o, o, o, o, q, q, o, o, o, o, o, o, o, o, o, o, o, o, o, o, o, o, q, o, o, o, o, o, o, o, o, o, o, o, o, o, o, o, o, q, o, o, o, o, o, o, o, o, o, o, o, o, o, o, o, o, (.str [])]), e (.store 62 (t 6) (t 28)), m 7 (.mov (t 29))]) <|
  .seq (.region [m 30 (.mov (t 7)), m 31 (.bin .eql .num (t 30) (.c q)), m 32 (.mov (t 31)), g 33 32 true (.field 0 (t 6)), g 34 32 true (.load none (t 33)), g 35 32 true (.bin .eql .num (t 34) (.c (i 2))), g 36 32 true (.mov (t 35)), g 37 36 false (.field 0 (t 6)), g 38 36 false (.load none (t 37)), g 39 36 false (.bin .eql .num (t 38) (.c (i 3))), g 40 32 true (.pick (t 36) (.c (.bool true)) (t 39)), m 41 (.pick (t 32) (t 40) (.c (.bool false)))]) <|
  .cond (t 41) (.seq (.region [m 42 (.load (some 62) (t 6)), e (.store 62 (t 2) (t 42)), m 3 (.mov (.c (.bool true)))]) <|
  .ret) (.skip)) <|
  .region [m 43 (.bin .add .num (t 19) (.c (i 1))), m 19 (.mov (t 43))]) <|
  .seq (.region [m 44 (.build [q, o, o, o, o, o, o, o, o, q, q, o, o, o, o, o, o, o, o, o, o, o, o, o, o, o, o, q, o, o, o, o, o, o, o, o, o, o, o, o, o, o, o, o, q, o, o, o, o, o, o, o, o, o, o, o, o, o, o, o, o, (.str [])] []), e (.store 62 (t 2) (t 44)), m 3 (.mov (.c (.bool false)))]) <|
  .ret
def vf187 : VFun := ⟨45, 4, vb187, [.cell 2 (some 62), .tmp 3], false⟩
theorem cf187 : cFun Tryz.prog rawF false Tryz.f187 = some vf187 := by kernel_rfl
theorem T187 (h : HT σ args Post vb187 vf187 [dd, dd, dd, dd]) (hl : args.length ≤ 45 := by exact Nat.le_of_ble_eq_true rfl) : T Tryz.prog 187 args σ Post := T.walk Tryz.func187 cf187 hl rfl h
@[reducible] def vb143 : VC :=
  .seq (.region [m 1 (.box 0 (t 0)), m 2 (.mov (.c (.bool false)))]) <|
  .seq (.region [m 8 (.field 0 (t 1)), m 9 (.load none (t 8)), m 10 (.call false 144 [(t 9)]), m 7 (.mov (t 10)), m 11 (.extract 0 (t 7)), m 12 (.extract 1 (t 7)), m 3 (.alloc 1 [(.bool false), (.bool false), (.bool false), (.bool false)]), e (.store 4 (t 3) (t 11)), m 4 (.mov (t 12))]) <|
  .seq (.block 0 <| .seq (.seq (.region [m 14 (.mov (t 4)), m 15 (.un .not (t 14)), m 13 (.mov (t 15))]) <|
  .cond (t 13) (.skip) (.seq (.dreg [(m 16 (.load (some 62) (t 1)), []), (m 17 (.load (some 4) (t 3)), []), (m 18 (.call false 184 [(t 16), (t 17)]), [0, 1]), (m 19 (.load (some 62) (t 1)), []), (m 20 (.eqAgg [(.i .i64), (.i .u8), (.i .u8), (.i .u8), (.i .u8), (.i .u8), (.i .u8), (.i .u8), (.i .u8), (.i .i64), (.i .i64), (.i .u8), (.i .u8), (.i .u8), (.i .u8), (.i .u8), (.i .u8), (.i .u8), (.i .u8), (.i .u8), (.i .u8), (.i .u8), (.i .u8), (.i .u8), (.i .u8), (.i .u8), (.i .u8), (.i .i64), (.i .u8), (.i .u8), (.i .u8), (.i .u8), (.i .u8), (.i .u8), (.i .u8), (.i .u8), (.i .u8), (.i .u8), (.i .u8), (.i .u8), (.i .u8), (.i .u8), (.i .u8), (.i .u8), (.i .i64), (.i .u8), (.i .u8), (.i .u8), (.i .u8), (.i .u8), (.i .u8), (.i .u8), (.i .u8), (.i .u8), (.i .u8), (.i .u8), (.i .u8), (.i .u8), (.i .u8), (.i .u8), (.i .u8), .s] true (t 18) (t 19)), [2, 3]), (m 13 (.mov (t 20)), [4, 2])] [(1, 0), (1, 1), (1, 2), (1, 3), (2, 4), (2, 5)] [0, 0, 3, 0, 15, 31]) <|
  .cond (t 13) (.skip) (.seq (.region [m 21 (.field 9 (t 1)), m 22 (.load none (t 21)), m 23 (.bin .lss .num (t 22) (.c q)), m 13 (.mov (t 23))]) <|
  .cond (t 13) (.skip) (.region [m 24 (.field 9 (t 1)), m 25 (.load none (t 24)), m 26 (.bin .gtr .num (t 25) (.c (i 4294967295))), m 13 (.mov (t 26))])))) <|
  .cond (t 13) (.seq (.region [m 2 (.mov (.c (.bool false)))]) <|
  .ret) (.seq (.region [m 28 (.field 3 (t 3)), m 29 (.load none (t 28)), m 30 (.mov (t 29)), g 31 30 true (.field 44 (t 1)), g 32 30 true (.load (some 17) (t 31)), g 33 30 true (.call false 185 [(t 32)]), g 34 30 true (.un .not (t 33)), m 35 (.pick (t 30) (t 34) (.c (.bool false))), m 27 (.mov (t 35))]) <|
  .cond (t 27) (.seq (.region [m 2 (.mov (.c (.bool false)))]) <|
  .ret) (.seq (.region [m 37 (.field 2 (t 3)), m 38 (.load none (t 37)), m 39 (.mov (t 38)), g 40 39 true (.field 10 (t 1)), g 41 39 true (.load (some 17) (t 40)), g 42 39 true (.field 27 (t 1)), g 43 39 true (.load (some 17) (t 42)), g 44 39 true (.field 0 (t 1)), g 45 39 true (.load none (t 44)), g 46 39 true (.bin .eql .num (t 45) (.c (i 3))), g 47 39 true (.call false 186 [(t 41), (t 43), (t 46)]), g 48 39 true (.un .not (t 47)), m 49 (.pick (t 39) (t 48) (.c (.bool false))), m 36 (.mov (t 49))]) <|
  .cond (t 36) (.seq (.region [m 2 (.mov (.c (.bool false)))]) <|
  .ret) (.seq (.region [m 51 (.field 0 (t 1)), m 52 (.load none (t 51)), m 53 (.bin .eql .num (t 52) (.c (i 4))), m 50 (.mov (t 53))]) <|
  .cond (t 50) (.seq (.region [m 55 (.field 61 (t 1)), m 56 (.load none (t 55)), m 57 (.call false 187 [(t 56)]), m 54 (.mov (t 57)), m 58 (.extract 0 (t 54)), m 59 (.extract 1 (t 54)), m 5 (.alloc 2 [q, o, o, o, o, o, o, o, o, q, q, o, o, o, o, o, o, o, o, o, o, o, o, o, o, o, o, q, o, o, o, o, o, o, o, o, o, o, o, o, o, o, o, o, q, o, o, o, o, o, o, o, o, o, o, o, o, o, o, o, o, (.str [])]), e (.store 62 (t 5) (t 58)), m 6 (.mov (t 59))]) <|
  .seq (.region [m 60 (.mov (t 6)), m 2 (.mov (t 60))]) <|
  .ret) (.skip))))) <|
  .seq (.region [m 2 (.mov (.c (.bool true)))]) <|
  .ret
def vf143 : VFun := ⟨61, 3, vb143, [.tmp 2], false⟩
theorem cf143 : cFun Tryz.prog rawF false Tryz.f143 = some vf143 := by kernel_rfl
theorem T143 (h : HT σ args Post vb143 vf143 [dd, dd, dd]) (hl : args.length ≤ 61 := by exact Nat.le_of_ble_eq_true rfl) : T Tryz.prog 143 args σ Post := T.walk Tryz.func143 cf143 hl rfl h
@[reducible] def vb90 : VC :=
  .seq (.region [m 1 (.box 0 (t 0)), m 2 (.newRow 1 1), m 3 (.mov (.c q))]) <|
  .seq (.seq (.region [m 7 (.load (some 62) (t 1)), m 8 (.call false 143 [(t 7)]), m 9 (.un .not (t 8))]) <|
  .cond (t 9) (.seq (.region [m 2 (.newRow 1 1), m 3 (.mov (.c (i 1)))]) <|
  .ret) (.skip)) <|
  .seq (.region [m 11 (.field 0 (t 1)), m 12 (.load none (t 11)), m 13 (.call false 144 [(t 12)]), m 10 (.mov (t 13)), m 14 (.extract 0 (t 10)), m 15 (.extract 1 (t 10)), m 4 (.alloc 2 [(.bool false), (.bool false), (.bool false), (.bool false)]), e (.store 4 (t 4) (t 14)), m 5 (.mov (t 15))]) <|
  .seq (.region [m 16 (.field 61 (t 1)), m 17 (.load none (t 16)), m 18 (.s2b 3 (t 17)), m 6 (.mov (t 18))]) <|
  .seq (.seq (.region [m 19 (.field 0 (t 4)), m 20 (.load none (t 19))]) <|
  .cond (t 20) (.region [m 21 (.mov (t 6)), m 22 (.field 1 (t 1)), m 23 (.sliceArr 8 1 (t 22) none none), m 24 (.append 4 1 1 (t 21) (t 23)), m 6 (.mov (t 24))]) (.skip)) <|
  .seq (.seq (.region [m 25 (.field 1 (t 4)), m 26 (.load none (t 25))]) <|
  .cond (t 26) (.region [m 28 (.mov (t 6)), m 29 (.field 9 (t 1)), m 30 (.load none (t 29)), m 31 (.call false 126 [(t 28), (t 30), (.c (i 4))]), m 27 (.mov (t 31)), m 32 (.extract 0 (t 27)), m 33 (.extract 1 (t 27)), m 6 (.mov (t 32))]) (.skip)) <|
  .seq (.seq (.region [m 34 (.field 2 (t 4)), m 35 (.load none (t 34))]) <|
  .cond (t 35) (.dreg [(m 36 (.mov (t 6)), []), (m 37 (.field 10 (t 1)), []), (m 38 (.load (some 17) (t 37)), [1]), (m 39 (.call false 145 [(t 38)]), [2]), (m 40 (.append 5 1 1 (t 36) (t 39)), [0, 3, 3]), (m 41 (.field 27 (t 1)), []), (m 42 (.load (some 17) (t 41)), [5]), (m 43 (.call false 145 [(t 42)]), [6, 4]), (m 44 (.append 6 1 1 (t 40) (t 43)), [4, 7, 7]), (m 6 (.mov (t 44)), [8, 8, 0, 1, 2, 3, 4, 5, 6, 7, 8])] [(2, 0), (1, 1), (1, 2), (1, 3), (2, 5), (2, 6), (0, 4), (1, 7), (0, 8), (2, 9)] [0, 0, 2, 6, 15, 0, 32, 127, 255, 511]) (.skip)) <|
  .seq (.seq (.region [m 45 (.field 3 (t 4)), m 46 (.load none (t 45))]) <|
  .cond (t 46) (.region [m 47 (.mov (t 6)), m 48 (.field 44 (t 1)), m 49 (.load (some 17) (t 48)), m 50 (.call false 57 [(t 49)]), m 51 (.append 7 1 1 (t 47) (t 50)), m 6 (.mov (t 51))]) (.skip)) <|
  .seq (.region [m 52 (.field 0 (t 1)), m 53 (.load none (t 52)), m 54 (.convInt .u8 (t 53)), m 55 (.mov (t 6)), m 56 (.len (t 55)), m 57 (.convInt .u8 (t 56)), m 58 (.buildSlice 8 1 2 [o] [(0, (t 54)), (1, (t 57))]), m 59 (.mov (t 6)), m 60 (.append 9 1 1 (t 58) (t 59)), m 2 (.mov (t 60)), m 3 (.mov (.c q))]) <|
  .ret
def vf90 : VFun := ⟨61, 10, vb90, [.tmp 2, .tmp 3], false⟩
theorem cf90 : cFun Tryz.prog rawF false Tryz.f90 = some vf90 := by kernel_rfl
theorem T90 (h : HT σ args Post vb90 vf90 [dd, dd, dd, dd, dd, dd, dd, dd, dd, dd]) (hl : args.length ≤ 61 := by exact Nat.le_of_ble_eq_true rfl) : T Tryz.prog 90 args σ Post := T.walk Tryz.func90 cf90 hl rfl h
@[reducible] def vb246 : VC :=
  .seq (.region [m 4 (.alloc 0 [q, o, o, o, o, o, o, o, o, o, o, o, o, o, o, o, o])]) <|
  .seq (.region [m 7 (.load none (t 1)), m 8 (.mov (t 0)), m 9 (.call false 150 [(t 7), (t 8)]), m 10 (.call false 148 [(t 9)]), m 6 (.mov (t 10)), m 11 (.extract 0 (t 6)), m 12 (.extract 1 (t 6)), e (.store 17 (t 4) (t 11)), m 5 (.mov (t 12))]) <|
  .seq (.region [m 13 (.load none (t 2)), m 14 (.mov (t 13)), g 15 14 true (.mov (t 5)), g 16 14 true (.bin .eql .num (t 15) (.c q)), m 17 (.pick (t 14) (t 16) (.c (.bool false))), e (.store 1 (t 2) (t 17))]) <|
  .seq (.region [m 18 (.load (some 17) (t 4)), e (.store 17 (t 4) (t 18))]) <|
  .ret
def vf246 : VFun := ⟨19, 1, vb246, [.cell 4 (some 17)], false⟩
theorem cf246 : cFun Tryz.prog rawF false Tryz.f246 = some vf246 := by kernel_rfl
theorem T246 (h : HT σ args Post vb246 vf246 [dd]) (hl : args.length ≤ 19 := by exact Nat.le_of_ble_eq_true rfl) : T Tryz.prog 246 args σ Post := T.walk Tryz.func246 cf246 hl rfl h
@[reducible] def vb247 : VC :=
  .seq (.region [m 3 (.alloc 0 [q, o, o, o, o, o, o, o, o, o, o, o, o, o, o, o, o])]) <|
  .seq (.region [m 5 (.load none (t 0)), m 6 (.call false 58 [(t 5), (.c (i 1))]), m 4 (.mov (t 6))]) <|
  .seq (.region [m 7 (.load none (t 1)), m 8 (.mov (t 7)), g 9 8 true (.mov (t 4)), g 10 8 true (.bin .rem .num (t 9) (.c (i 8))), g 11 8 true (.bin .eql .num (t 10) (.c q)), m 12 (.pick (t 8) (t 11) (.c (.bool false))), e (.store 1 (t 1) (t 12))]) <|
  .seq (.region [m 13 (.load none (t 2)), m 14 (.mov (t 4)), m 15 (.bin .quo .num (t 14) (.c (i 8))), m 16 (.callV (t 13) [(t 15)]), e (.store 17 (t 3) (t 16))]) <|
  .ret
def vf247 : VFun := ⟨17, 1, vb247, [.cell 3 (some 17)], false⟩
theorem cf247 : cFun Tryz.prog rawF false Tryz.f247 = some vf247 := by kernel_rfl
theorem T247 (h : HT σ args Post vb247 vf247 [dd]) (hl : args.length ≤ 17 := by exact Nat.le_of_ble_eq_true rfl) : T Tryz.prog 247 args σ Post := T.walk Tryz.func247 cf247 hl rfl h
@[reducible] def vb223 : VC :=
  .seq (.region [m 4 (.box 0 (t 1)), m 6 (.alloc 1 [q, o, o, o, o, o, o, o, o, q, q, o, o, o, o, o, o, o, o, o, o, o, o, o, o, o, o, q, o, o, o, o, o, o, o, o, o, o, o, o, o, o, o, o, q, o, o, o, o, o, o, o, o, o, o, o, o, o, o, o, o, (.str [])]), m 7 (.mov (.c (.bool false)))]) <|
  .seq (.region [m 13 (.mov (t 0)), m 14 (.mov (t 2)), m 15 (.build [q, o, o, o, o, o, o, o, o, q, q, o, o, o, o, o, o, o, o, o, o, o, o, o, o, o, o, q, o, o, o, o, o, o, o, o, o, o, o, o, o, o, o, o, q, o, o, o, o, o, o, o, o, o, o, o, o, o, o, o, o, (.str [])] [(0, 1, (t 13)), (61, 1, (t 14))]), m 8 (.alloc 2 [q, o, o, o, o, o, o, o, o, q, q, o, o, o, o, o, o, o, o, o, o, o, o, o, o, o, o, q, o, o, o, o, o, o, o, o, o, o, o, o, o, o, o, o, q, o, o, o, o, o, o, o, o, o, o, o, o, o, o, o, o, (.str [])]), e (.store 62 (t 8) (t 15))]) <|
  .seq (.region [m 17 (.mov (t 0)), m 18 (.call false 144 [(t 17)]), m 16 (.mov (t 18)), m 19 (.extract 0 (t 16)), m 20 (.extract 1 (t 16)), m 9 (.alloc 3 [(.bool false), (.bool false), (.bool false), (.bool false)]), m 10 (.alloc 4 [(.bool false)]), e (.store 4 (t 9) (t 19)), e (.store 1 (t 10) (t 20))]) <|
  .seq (.region [m 21 (.func 246 [(t 4), (t 10)]), m 11 (.alloc 5 [.undef]), e (.store 1 (t 11) (t 21))]) <|
  .seq (.region [m 22 (.func 247 [(t 4), (t 10), (t 11)]), m 12 (.mov (t 22))]) <|
  .seq (.seq (.region [m 23 (.field 0 (t 9)), m 24 (.load none (t 23))]) <|
  .cond (t 24) (.dreg [(m 25 (.field 1 (t 8)), []), (m 26 (.sliceArr 8 1 (t 25) none none), [0]), (m 27 (.load none (t 4)), []), (m 28 (.call false 150 [(t 27), (.c (i 8))]), [2]), (m 29 (.copyTo 1 (t 26) (t 28)), [1, 3, 3])] [(2, 0), (2, 1), (1, 2), (0, 3), (0, 4)] [0, 1, 0, 4, 15]) (.skip)) <|
  .seq (.seq (.region [m 30 (.field 1 (t 9)), m 31 (.load none (t 30))]) <|
  .cond (t 31) (.region [m 32 (.load none (t 4)), m 33 (.call false 58 [(t 32), (.c (i 4))]), m 34 (.field 9 (t 8)), e (.store 1 (t 34) (t 33))]) (.skip)) <|
  .seq (.seq (.region [m 35 (.field 2 (t 9)), m 36 (.load none (t 35))]) <|
  .cond (t 36) (.seq (.region [m 37 (.mov (t 12)), m 38 (.callV (t 37) []), m 39 (.field 10 (t 8)), e (.store 17 (t 39) (t 38))]) <|
  .region [m 40 (.mov (t 12)), m 41 (.callV (t 40) []), m 42 (.field 27 (t 8)), e (.store 17 (t 42) (t 41))]) (.skip)) <|
  .seq (.seq (.region [m 43 (.field 3 (t 9)), m 44 (.load none (t 43))]) <|
  .cond (t 44) (.dreg [(m 45 (.load none (t 11)), []), (m 46 (.load none (t 4)), []), (m 47 (.nilCheck (t 46)), [1]), (m 48 (.field 0 (t 47)), [2]), (m 49 (.call false 116 [(t 48)]), [3]), (m 50 (.callV (t 45) [(t 49)]), [0, 4, 4]), (m 51 (.field 44 (t 8)), [0, 1, 2, 3, 4, 5]), (e (.store 17 (t 51) (t 50)), [6, 5, 5, 0, 1, 2, 3, 4, 5])] [(2, 0), (1, 1), (1, 2), (1, 3), (0, 4), (0, 5), (1, 6), (0, 7)] [0, 0, 2, 6, 14, 31, 63, 127]) (.skip)) <|
  .seq (.dreg [(m 52 (.load (some 62) (t 8)), []), (m 53 (.load none (t 10)), []), (m 54 (.mov (t 53)), [1]), (g 55 54 true (.load none (t 4)), [2]), (g 56 54 true (.nilCheck (t 55)), [3, 2]), (g 57 54 true (.field 0 (t 56)), [4, 2]), (g 58 54 true (.call false 222 [(t 57)]), [5, 2, 2]), (g 59 54 true (.un .not (t 58)), [6, 2]), (m 60 (.pick (t 54) (t 59) (.c (.bool false))), [2, 7]), (m 61 (.mov (t 60)), [8, 6]), (g 62 61 true (.load none (t 4)), [9]), (g 63 61 true (.nilCheck (t 62)), [10, 9]), (g 64 61 true (.field 0 (t 63)), [11, 9]), (g 65 61 true (.call false 116 [(t 64)]), [12, 9, 9]), (g 66 61 true (.bin .eql .num (t 65) (.c q)), [13, 9]), (m 67 (.pick (t 61) (t 66) (.c (.bool false))), [9, 14]), (e (.store 62 (t 6) (t 52)), [0, 13, 0]), (m 7 (.mov (t 67)), [15, 16, 0, 1, 2, 3, 4, 5, 6, 7, 8, 9, 10, 11, 12, 13, 14, 15, 16])] [(2, 0), (1, 1), (2, 2), (1, 3), (1, 4), (1, 5), (0, 6), (2, 7), (2, 8), (2, 9), (1, 10), (1, 11), (1, 12), (0, 13), (2, 14), (2, 15), (0, 16), (2, 17)] [0, 0, 2, 6, 14, 30, 62, 126, 254, 510, 1022, 2046, 4094, 8190, 16382, 32766, 16383, 131071]) <|
  .ret
def vf223 : VFun := ⟨68, 6, vb223, [.cell 6 (some 62), .tmp 7], false⟩
theorem cf223 : cFun Tryz.prog rawF false Tryz.f223 = some vf223 := by kernel_rfl
theorem T223 (h : HT σ args Post vb223 vf223 [dd, dd, dd, dd, dd, dd]) (hl : args.length ≤ 68 := by exact Nat.le_of_ble_eq_true rfl) : T Tryz.prog 223 args σ Post := T.walk Tryz.func223 cf223 hl rfl h
@[reducible] def vb224 : VC :=
  .seq (.region [m 2 (.box 0 (t 0)), m 4 (.mov (.c (.bool false)))]) <|
  .seq (.seq (.region [m 9 (.field 10 (t 2)), m 10 (.load (some 17) (t 9)), m 11 (.field 27 (t 2)), m 12 (.load (some 17) (t 11)), m 13 (.buildSlice 1 17 2 [q, o, o, o, o, o, o, o, o, o, o, o, o, o, o, o, o] [(0, (t 10)), (1, (t 12))]), m 14 (.len (t 13)), m 15 (.mov (.c q))]) <|
  .block 0 <| .loop <| .seq (.region [m 16 (.bin .lss .num (t 15) (t 14))]) <|
  .seq (.cond (t 16) (.skip) (.exit 0)) <|
  .seq (.block 1 <| .seq (.region [m 17 (.index 17 (t 13) (t 15)), m 18 (.load (some 17) (t 17)), m 6 (.alloc 2 [q, o, o, o, o, o, o, o, o, o, o, o, o, o, o, o, o]), e (.store 17 (t 6) (t 18))]) <|
  .seq (.region [m 19 (.field 0 (t 6)), m 20 (.load none (t 19)), m 21 (.bin .neq .num (t 20) (.c q)), m 22 (.mov (t 21)), g 23 22 true (.field 0 (t 6)), g 24 22 true (.load none (t 23)), g 25 22 true (.mov (t 1)), g 26 22 true (.bin .neq .num (t 24) (t 25)), m 27 (.pick (t 22) (t 26) (.c (.bool false)))]) <|
  .cond (t 27) (.seq (.region [m 4 (.mov (.c (.bool false)))]) <|
  .ret) (.skip)) <|
  .region [m 28 (.bin .add .num (t 15) (.c (i 1))), m 15 (.mov (t 28))]) <|
  .seq (.seq (.region [m 29 (.field 0 (t 2)), m 30 (.load none (t 29)), m 31 (.bin .neq .num (t 30) (.c (i 4)))]) <|
  .cond (t 31) (.seq (.region [m 4 (.mov (.c (.bool true)))]) <|
  .ret) (.skip)) <|
  .seq (.region [m 33 (.field 61 (t 2)), m 34 (.load none (t 33)), m 35 (.s2b 3 (t 34)), m 36 (.mov (t 1)), m 37 (.call false 171 [(t 35), (t 36)]), m 32 (.mov (t 37)), m 38 (.extract 0 (t 32)), m 39 (.extract 1 (t 32)), m 7 (.alloc 4 [q, o, o, o, o, o, o, o, o, q, q, o, o, o, o, o, o, o, o, o, o, o, o, o, o, o, o, q, o, o, o, o, o, o, o, o, o, o, o, o, o, o, o, o, q, o, o, o, o, o, o, o, o, o, o, o, o, o, o, o, o, (.str [])]), e (.store 62 (t 7) (t 38)), m 8 (.mov (t 39))]) <|
  .seq (.region [m 40 (.mov (t 8)), m 41 (.bin .eql .num (t 40) (.c q)), m 4 (.mov (t 41))]) <|
  .ret
def vf224 : VFun := ⟨42, 5, vb224, [.tmp 4], false⟩
theorem cf224 : cFun Tryz.prog rawF false Tryz.f224 = some vf224 := by kernel_rfl
theorem T224 (h : HT σ args Post vb224 vf224 [dd, dd, dd, dd, dd]) (hl : args.length ≤ 42 := by exact Nat.le_of_ble_eq_true rfl) : T Tryz.prog 224 args σ Post := T.walk Tryz.func224 cf224 hl rfl h
@[reducible] def vb201 : VC :=
  .seq (.region [m 4 (.alloc 0 [q, o, o, o, o, o, o, o, o, q, q, o, o, o, o, o, o, o, o, o, o, o, o, o, o, o, o, q, o, o, o, o, o, o, o, o, o, o, o, o, o, o, o, o, q, o, o, o, o, o, o, o, o, o, o, o, o, o, o, o, o, (.str [])]), m 5 (.mov (.c q)), m 6 (.mov (.c q))]) <|
  .seq (.seq (.region [m 15 (.mov (t 1)), m 16 (.bin .neq .num (t 15) (.c (i 4))), m 17 (.mov (t 16)), g 18 17 true (.mov (t 1)), g 19 17 true (.bin .neq .num (t 18) (.c (i 16))), m 20 (.pick (t 17) (t 19) (.c (.bool false)))]) <|
  .cond (t 20) (.seq (.region [m 21 (.build [q, o, o, o, o, o, o, o, o, q, q, o, o, o, o, o, o, o, o, o, o, o, o, o, o, o, o, q, o, o, o, o, o, o, o, o, o, o, o, o, o, o, o, o, q, o, o, o, o, o, o, o, o, o, o, o, o, o, o, o, o, (.str [])] []), e (.store 62 (t 4) (t 21)), m 5 (.mov (.c q)), m 6 (.mov (.c (i 1)))]) <|
  .ret) (.skip)) <|
  .seq (.region [m 22 (.mov (t 0)), m 23 (.call false 56 [(t 22)]), m 7 (.mov (t 23))]) <|
  .seq (.region [m 24 (.mov (t 7)), m 25 (.call false 58 [(t 24), (.c (i 1))]), m 8 (.mov (t 25))]) <|
  .seq (.region [m 26 (.mov (t 7)), m 27 (.call false 58 [(t 26), (.c (i 1))]), m 9 (.mov (t 27))]) <|
  .seq (.region [m 28 (.mov (t 7)), m 29 (.mov (t 9)), m 30 (.call false 221 [(t 28), (t 29)]), m 10 (.mov (t 30))]) <|
  .seq (.seq (.region [m 31 (.mov (t 7)), m 32 (.nilCheck (t 31)), m 33 (.field 0 (t 32)), m 34 (.call false 222 [(t 33)])]) <|
  .cond (t 34) (.seq (.region [m 35 (.build [q, o, o, o, o, o, o, o, o, q, q, o, o, o, o, o, o, o, o, o, o, o, o, o, o, o, o, q, o, o, o, o, o, o, o, o, o, o, o, o, o, o, o, o, q, o, o, o, o, o, o, o, o, o, o, o, o, o, o, o, o, (.str [])] []), e (.store 62 (t 4) (t 35)), m 5 (.mov (.c q)), m 6 (.mov (.c (i 3)))]) <|
  .ret) (.skip)) <|
  .seq (.region [m 11 (.mov (.c (.str [])))]) <|
  .seq (.seq (.region [m 36 (.mov (t 8)), m 37 (.bin .eql .num (t 36) (.c (i 4)))]) <|
  .cond (t 37) (.seq (.region [m 38 (.mov (t 10)), m 39 (.call false 150 [(t 38), (.c (i 2))]), m 12 (.mov (t 39))]) <|
  .seq (.seq (.region [m 40 (.mov (t 10)), m 41 (.nilCheck (t 40)), m 42 (.field 0 (t 41)), m 43 (.call false 222 [(t 42)])]) <|
  .cond (t 43) (.seq (.region [m 44 (.build [q, o, o, o, o, o, o, o, o, q, q, o, o, o, o, o, o, o, o, o, o, o, o, o, o, o, o, q, o, o, o, o, o, o, o, o, o, o, o, o, o, o, o, o, q, o, o, o, o, o, o, o, o, o, o, o, o, o, o, o, o, (.str [])] []), e (.store 62 (t 4) (t 44)), m 5 (.mov (.c q)), m 6 (.mov (.c (i 4)))]) <|
  .ret) (.skip)) <|
  .dreg [(m 45 (.mov (t 12)), []), (m 46 (.b2s (t 45)), [0]), (m 47 (.mov (t 10)), []), (m 48 (.mov (t 12)), []), (m 49 (.index 1 (t 48) (.c (i 1))), [3]), (m 50 (.load none (t 49)), [4]), (m 51 (.convInt .i64 (t 50)), [5]), (m 52 (.call false 150 [(t 47), (t 51)]), [2, 6]), (m 53 (.b2s (t 52)), [7]), (m 54 (.bin .add .num (t 46) (t 53)), [1, 8]), (m 11 (.mov (t 54)), [9, 7, 0, 1, 2, 3, 4, 5, 6, 7, 8, 9])] [(2, 0), (2, 1), (2, 2), (2, 3), (1, 4), (1, 5), (2, 6), (0, 7), (1, 8), (2, 9), (2, 10)] [0, 1, 0, 0, 8, 24, 56, 124, 252, 511, 1023]) (.skip)) <|
  .seq (.region [m 56 (.mov (t 8)), m 57 (.mov (t 10)), m 58 (.mov (t 11)), m 59 (.call false 223 [(t 56), (t 57), (t 58)]), m 55 (.mov (t 59)), m 60 (.extract 0 (t 55)), m 61 (.extract 1 (t 55)), m 13 (.alloc 1 [q, o, o, o, o, o, o, o, o, q, q, o, o, o, o, o, o, o, o, o, o, o, o, o, o, o, o, q, o, o, o, o, o, o, o, o, o, o, o, o, o, o, o, o, q, o, o, o, o, o, o, o, o, o, o, o, o, o, o, o, o, (.str [])]), e (.store 62 (t 13) (t 60)), m 14 (.mov (t 61))]) <|
  .seq (.seq (.region [m 62 (.mov (t 14)), m 63 (.un .not (t 62)), m 64 (.mov (t 63)), g 65 64 false (.load (some 62) (t 13)), g 66 64 false (.call false 143 [(t 65)]), g 67 64 false (.un .not (t 66)), m 68 (.pick (t 64) (.c (.bool true)) (t 67)), m 69 (.mov (t 68)), g 70 69 false (.load (some 62) (t 13)), g 71 69 false (.mov (t 1)), g 72 69 false (.call false 224 [(t 70), (t 71)]), g 73 69 false (.un .not (t 72)), m 74 (.pick (t 69) (.c (.bool true)) (t 73))]) <|
  .cond (t 74) (.seq (.region [m 75 (.build [q, o, o, o, o, o, o, o, o, q, q, o, o, o, o, o, o, o, o, o, o, o, o, o, o, o, o, q, o, o, o, o, o, o, o, o, o, o, o, o, o, o, o, o, q, o, o, o, o, o, o, o, o, o, o, o, o, o, o, o, o, (.str [])] []), e (.store 62 (t 4) (t 75)), m 5 (.mov (.c q)), m 6 (.mov (.c (i 4)))]) <|
  .ret) (.skip)) <|
  .seq (.region [m 76 (.load (some 62) (t 13)), m 77 (.mov (t 9)), m 78 (.bin .add .num (.c (i 2)) (t 77)), e (.store 62 (t 4) (t 76)), m 5 (.mov (t 78)), m 6 (.mov (.c q))]) <|
  .ret
def vf201 : VFun := ⟨79, 2, vb201, [.cell 4 (some 62), .tmp 5, .tmp 6], false⟩
theorem cf201 : cFun Tryz.prog rawF false Tryz.f201 = some vf201 := by kernel_rfl
theorem T201 (h : HT σ args Post vb201 vf201 [dd, dd]) (hl : args.length ≤ 79 := by exact Nat.le_of_ble_eq_true rfl) : T Tryz.prog 201 args σ Post := T.walk Tryz.func201 cf201 hl rfl h
@[reducible] def vb171 : VC :=
  .seq (.region [m 4 (.alloc 0 [q, o, o, o, o, o, o, o, o, q, q, o, o, o, o, o, o, o, o, o, o, o, o, o, o, o, o, q, o, o, o, o, o, o, o, o, o, o, o, o, o, o, o, o, q, o, o, o, o, o, o, o, o, o, o, o, o, o, o, o, o, (.str [])]), m 5 (.mov (.c q))]) <|
  .seq (.region [m 10 (.mov (t 0)), m 11 (.mov (t 1)), m 12 (.call false 201 [(t 10), (t 11)]), m 9 (.mov (t 12)), m 13 (.extract 0 (t 9)), m 14 (.extract 1 (t 9)), m 15 (.extract 2 (t 9)), m 6 (.alloc 1 [q, o, o, o, o, o, o, o, o, q, q, o, o, o, o, o, o, o, o, o, o, o, o, o, o, o, o, q, o, o, o, o, o, o, o, o, o, o, o, o, o, o, o, o, q, o, o, o, o, o, o, o, o, o, o, o, o, o, o, o, o, (.str [])]), e (.store 62 (t 6) (t 13)), m 7 (.mov (t 14)), m 8 (.mov (t 15))]) <|
  .seq (.block 0 <| .seq (.region [m 17 (.mov (t 8)), m 18 (.bin .neq .num (t 17) (.c q)), m 16 (.mov (t 18))]) <|
  .cond (t 16) (.seq (.region [m 19 (.build [q, o, o, o, o, o, o, o, o, q, q, o, o, o, o, o, o, o, o, o, o, o, o, o, o, o, o, q, o, o, o, o, o, o, o, o, o, o, o, o, o, o, o, o, q, o, o, o, o, o, o, o, o, o, o, o, o, o, o, o, o, (.str [])] []), m 20 (.mov (t 8)), e (.store 62 (t 4) (t 19)), m 5 (.mov (t 20))]) <|
  .ret) (.seq (.region [m 22 (.mov (t 7)), m 23 (.mov (t 0)), m 24 (.len (t 23)), m 25 (.bin .neq .num (t 22) (t 24)), m 21 (.mov (t 25))]) <|
  .cond (t 21) (.seq (.region [m 26 (.build [q, o, o, o, o, o, o, o, o, q, q, o, o, o, o, o, o, o, o, o, o, o, o, o, o, o, o, q, o, o, o, o, o, o, o, o, o, o, o, o, o, o, o, o, q, o, o, o, o, o, o, o, o, o, o, o, o, o, o, o, o, (.str [])] []), e (.store 62 (t 4) (t 26)), m 5 (.mov (.c (i 4)))]) <|
  .ret) (.skip))) <|
  .seq (.region [m 27 (.load (some 62) (t 6)), e (.store 62 (t 4) (t 27)), m 5 (.mov (.c q))]) <|
  .ret
def vf171 : VFun := ⟨28, 2, vb171, [.cell 4 (some 62), .tmp 5], false⟩
theorem cf171 : cFun Tryz.prog rawF false Tryz.f171 = some vf171 := by kernel_rfl
theorem T171 (h : HT σ args Post vb171 vf171 [dd, dd]) (hl : args.length ≤ 28 := by exact Nat.le_of_ble_eq_true rfl) : T Tryz.prog 171 args σ Post := T.walk Tryz.func171 cf171 hl rfl h
@[reducible] def vb208 : VC :=
  .seq (.region [m 4 (.newRow 0 62), m 5 (.mov (.c q))]) <|
  .seq (.seq (.region [m 10 (.mov (t 1)), m 11 (.bin .neq .num (t 10) (.c (i 4))), m 12 (.mov (t 11)), g 13 12 true (.mov (t 1)), g 14 12 true (.bin .neq .num (t 13) (.c (i 16))), m 15 (.pick (t 12) (t 14) (.c (.bool false)))]) <|
  .cond (t 15) (.seq (.region [m 4 (.newRow 0 62), m 5 (.mov (.c (i 1)))]) <|
  .ret) (.skip)) <|
  .seq (.region [m 6 (.newRow 1 62)]) <|
  .seq (.block 0 <| .loop <| .seq (.seq (.region [m 16 (.mov (t 0)), m 17 (.len (t 16)), m 18 (.bin .gtr .num (t 17) (.c q))]) <|
  .cond (t 18) (.skip) (.exit 0)) <|
  .block 1 <| .seq (.region [m 20 (.mov (t 0)), m 21 (.mov (t 1)), m 22 (.call false 201 [(t 20), (t 21)]), m 19 (.mov (t 22)), m 23 (.extract 0 (t 19)), m 24 (.extract 1 (t 19)), m 25 (.extract 2 (t 19)), m 7 (.alloc 2 [q, o, o, o, o, o, o, o, o, q, q, o, o, o, o, o, o, o, o, o, o, o, o, o, o, o, o, q, o, o, o, o, o, o, o, o, o, o, o, o, o, o, o, o, q, o, o, o, o, o, o, o, o, o, o, o, o, o, o, o, o, (.str [])]), e (.store 62 (t 7) (t 23)), m 8 (.mov (t 24)), m 9 (.mov (t 25))]) <|
  .seq (.seq (.region [m 26 (.mov (t 9)), m 27 (.bin .neq .num (t 26) (.c q))]) <|
  .cond (t 27) (.seq (.region [m 28 (.mov (t 9)), m 4 (.newRow 0 62), m 5 (.mov (t 28))]) <|
  .ret) (.skip)) <|
  .dreg [(m 29 (.mov (t 6)), []), (m 30 (.load (some 62) (t 7)), []), (m 31 (.buildSlice 3 62 1 [q, o, o, o, o, o, o, o, o, q, q, o, o, o, o, o, o, o, o, o, o, o, o, o, o, o, o, q, o, o, o, o, o, o, o, o, o, o, o, o, o, o, o, o, q, o, o, o, o, o, o, o, o, o, o, o, o, o, o, o, o, (.str [])] [(0, (t 30))]), [1]), (m 32 (.append 4 62 112 (t 29) (t 31)), [0, 2]), (m 33 (.mov (t 0)), []), (m 34 (.mov (t 8)), []), (m 35 (.slice 1 (t 33) (some (t 34)) none), [4, 5]), (m 6 (.mov (t 32)), [3, 3, 0, 1, 2, 3]), (m 0 (.mov (t 35)), [6, 7, 0, 1, 2, 3, 4, 5, 6, 7])] [(2, 0), (1, 1), (2, 4), (2, 5), (2, 6), (0, 2), (0, 3), (2, 7), (2, 8)] [0, 0, 2, 7, 0, 0, 48, 15, 255]) <|
  .seq (.region [m 36 (.mov (t 6)), m 4 (.mov (t 36)), m 5 (.mov (.c q))]) <|
  .ret
def vf208 : VFun := ⟨37, 5, vb208, [.tmp 4, .tmp 5], false⟩
theorem cf208 : cFun Tryz.prog rawF false Tryz.f208 = some vf208 := by kernel_rfl
theorem T208 (h : HT σ args Post vb208 vf208 [dd, dd, dd, dd, dd]) (hl : args.length ≤ 37 := by exact Nat.le_of_ble_eq_true rfl) : T Tryz.prog 208 args σ Post := T.walk Tryz.func208 cf208 hl rfl h
@[reducible] def vb206 : VC :=
  .seq (.region [m 2 (.newRow 0 1), m 3 (.mov (.c q))]) <|
  .seq (.region [m 4 (.newRow 1 1)]) <|
  .seq (.seq (.region [m 9 (.mov (t 0)), m 10 (.len (t 9)), m 11 (.mov (.c q))]) <|
  .block 0 <| .loop <| .seq (.region [m 12 (.bin .lss .num (t 11) (t 10))]) <|
  .seq (.cond (t 12) (.skip) (.exit 0)) <|
  .seq (.block 1 <| .seq (.region [m 13 (.index 62 (t 9) (t 11)), m 14 (.load (some 62) (t 13)), m 6 (.alloc 2 [q, o, o, o, o, o, o, o, o, q, q, o, o, o, o, o, o, o, o, o, o, o, o, o, o, o, o, q, o, o, o, o, o, o, o, o, o, o, o, o, o, o, o, o, q, o, o, o, o, o, o, o, o, o, o, o, o, o, o, o, o, (.str [])]), e (.store 62 (t 6) (t 14))]) <|
  .seq (.region [m 16 (.load (some 62) (t 6)), m 17 (.call false 90 [(t 16)]), m 15 (.mov (t 17)), m 18 (.extract 0 (t 15)), m 19 (.extract 1 (t 15)), m 7 (.mov (t 18)), m 8 (.mov (t 19))]) <|
  .seq (.seq (.region [m 20 (.mov (t 8)), m 21 (.bin .neq .num (t 20) (.c q))]) <|
  .cond (t 21) (.seq (.region [m 22 (.mov (t 8)), m 2 (.newRow 0 1), m 3 (.mov (t 22))]) <|
  .ret) (.skip)) <|
  .region [m 23 (.mov (t 4)), m 24 (.mov (t 7)), m 25 (.append 3 1 1 (t 23) (t 24)), m 4 (.mov (t 25))]) <|
  .region [m 26 (.bin .add .num (t 11) (.c (i 1))), m 11 (.mov (t 26))]) <|
  .seq (.region [m 27 (.mov (t 4)), m 2 (.mov (t 27)), m 3 (.mov (.c q))]) <|
  .ret
def vf206 : VFun := ⟨28, 4, vb206, [.tmp 2, .tmp 3], false⟩
theorem cf206 : cFun Tryz.prog rawF false Tryz.f206 = some vf206 := by kernel_rfl
theorem T206 (h : HT σ args Post vb206 vf206 [dd, dd, dd, dd]) (hl : args.length ≤ 28 := by exact Nat.le_of_ble_eq_true rfl) : T Tryz.prog 206 args σ Post := T.walk Tryz.func206 cf206 hl rfl h
end Go.Proofs.YtjhmobdncjhcnaaGreatDoor
