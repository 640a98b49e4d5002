/- Functions of the program, in the small language. -/
import Derived.Test.YtdkjcadffhnjgaaDoorVZ
namespace Go.Proofs.YtdkjcadffhnjgaaDoor
open Go Go.V D

/-- vinery/vinerylaw07.few -/
@[reducible] def vb29 : VC :=
  .seq (.region [m 1 (.box 0 (t 0)), m 2 (.mov (.c (.bool false)))]) <|
  .seq (.region [m 3 (.field 61 (t 1)), m 4 (.load none (t 3)), m 5 (.lenStr (t 4)), m 6 (.bin .leq .num (t 5) (.c (i 4096))), m 2 (.mov (t 6))]) <|
  .ret
def vf29 : VFun := ⟨7, 1, vb29, [.tmp 2], false⟩
theorem cf29 : cFun Go.Proofs.Tryd.prog rawF false Go.Proofs.Tryd.f29 = some vf29 := by kernel_rfl
theorem T29 {args : List PV} {σ : VHeap} {Post : KP} (h : belH σ.length σ → (∀ c, c ∈ args → bel σ.length c) → vrun Go.Proofs.Tryd.prog σ.length vb29 (argsEnv args) (σ ++ [dd]) (vend vf29 (TrimP σ.length Post))) (hl : args.length ≤ 7 := by exact Nat.le_of_ble_eq_true rfl) : T Go.Proofs.Tryd.prog 29 args σ Post := T.walk Go.Proofs.Tryd.func29 cf29 hl rfl h

/-- vinery/mroute.of -/
@[reducible] def vb60 : VC :=
  .seq (.region [m 2 (.alloc 0 [(.bool false), (.bool false), (.bool false), (.bool false)]), m 3 (.mov (.c (.bool false)))]) <|
  .seq (.region [m 5 (.build [(.bool false), (.bool false), (.bool false), (.bool false)] [(0, 1, (.c (.bool true))), (3, 1, (.c (.bool true)))]), m 6 (.build [(.bool false), (.bool false), (.bool false), (.bool false)] [(0, 1, (.c (.bool true))), (1, 1, (.c (.bool true)))]), m 7 (.build [(.bool false), (.bool false), (.bool false), (.bool false)] [(0, 1, (.c (.bool true))), (2, 1, (.c (.bool true))), (3, 1, (.c (.bool true)))]), m 8 (.build [(.bool false), (.bool false), (.bool false), (.bool false)] [(3, 1, (.c (.bool true)))]), m 9 (.build [(.bool false), (.bool false), (.bool false), (.bool false)] [(0, 1, (.c (.bool true))), (2, 1, (.c (.bool true)))]), m 10 (.build [(.bool false), (.bool false), (.bool false), (.bool false)] [(0, 1, (.c (.bool true))), (1, 1, (.c (.bool true))), (2, 1, (.c (.bool true)))]), m 11 (.build [(.bool false), (.bool false), (.bool false), (.bool false)] [(0, 1, (.c (.bool true))), (1, 1, (.c (.bool true))), (2, 1, (.c (.bool true)))]), m 12 (.build [(.bool false), (.bool false), (.bool false), (.bool false), (.bool false), (.bool false), (.bool false), (.bool false), (.bool false), (.bool false), (.bool false), (.bool false), (.bool false), (.bool false), (.bool false), (.bool false), (.bool false), (.bool false), (.bool false), (.bool false), (.bool false), (.bool false), (.bool false), (.bool false), (.bool false), (.bool false), (.bool false), (.bool false), (.bool false), (.bool false), (.bool false), (.bool false)] [(4, 4, (t 5)), (8, 4, (t 6)), (12, 4, (t 7)), (16, 4, (t 8)), (20, 4, (t 9)), (24, 4, (t 10)), (28, 4, (t 11))]), m 4 (.alloc 1 (List.replicate 32 (.bool false))), e (.store 32 (t 4) (t 12))]) <|
  .seq (.seq (.region [m 13 (.mov (t 0)), m 14 (.bin .lss .num (t 13) (.c (i 1))), m 15 (.mov (t 14)), g 16 15 false (.mov (t 0)), g 17 15 false (.bin .geq .num (t 16) (.c (i 8))), m 18 (.pick (t 15) (.c (.bool true)) (t 17))]) <|
  .cond (t 18) (.seq (.region [m 19 (.build [(.bool false), (.bool false), (.bool false), (.bool false)] []), e (.store 4 (t 2) (t 19)), m 3 (.mov (.c (.bool false)))]) <|
  .ret) (.skip)) <|
  .seq (.region [m 20 (.mov (t 0)), m 21 (.indexArr 8 4 (t 4) (t 20)), m 22 (.load (some 4) (t 21)), e (.store 4 (t 2) (t 22)), m 3 (.mov (.c (.bool true)))]) <|
  .ret
def vf60 : VFun := ⟨23, 2, vb60, [.cell 2 (some 4), .tmp 3], false⟩
theorem cf60 : cFun Go.Proofs.Tryd.prog rawF false Go.Proofs.Tryd.f60 = some vf60 := by kernel_rfl
theorem T60 {args : List PV} {σ : VHeap} {Post : KP} (h : belH σ.length σ → (∀ c, c ∈ args → bel σ.length c) → vrun Go.Proofs.Tryd.prog σ.length vb60 (argsEnv args) (σ ++ [dd, dd]) (vend vf60 (TrimP σ.length Post))) (hl : args.length ≤ 23 := by exact Nat.le_of_ble_eq_true rfl) : T Go.Proofs.Tryd.prog 60 args σ Post := T.walk Go.Proofs.Tryd.func60 cf60 hl rfl h

/-- vinery/mroute.bare -/
@[reducible] def vb64 : VC :=
  .seq (.region [m 2 (.box 0 (t 0)), m 3 (.box 1 (t 1)), m 4 (.alloc 2 [(i 0), (b 0), (b 0), (b 0), (b 0), (b 0), (b 0), (b 0), (b 0), (i 0), (i 0), (b 0), (b 0), (b 0), (b 0), (b 0), (b 0), (b 0), (b 0), (b 0), (b 0), (b 0), (b 0), (b 0), (b 0), (b 0), (b 0), (i 0), (b 0), (b 0), (b 0), (b 0), (b 0), (b 0), (b 0), (b 0), (b 0), (b 0), (b 0), (b 0), (b 0), (b 0), (b 0), (b 0), (i 0), (b 0), (b 0), (b 0), (b 0), (b 0), (b 0), (b 0), (b 0), (b 0), (b 0), (b 0), (b 0), (b 0), (b 0), (b 0), (b 0), (.str [])])]) <|
  .seq (.region [m 6 (.field 0 (t 2)), m 7 (.load none (t 6)), m 8 (.build [(i 0), (b 0), (b 0), (b 0), (b 0), (b 0), (b 0), (b 0), (b 0), (i 0), (i 0), (b 0), (b 0), (b 0), (b 0), (b 0), (b 0), (b 0), (b 0), (b 0), (b 0), (b 0), (b 0), (b 0), (b 0), (b 0), (b 0), (i 0), (b 0), (b 0), (b 0), (b 0), (b 0), (b 0), (b 0), (b 0), (b 0), (b 0), (b 0), (b 0), (b 0), (b 0), (b 0), (b 0), (i 0), (b 0), (b 0), (b 0), (b 0), (b 0), (b 0), (b 0), (b 0), (b 0), (b 0), (b 0), (b 0), (b 0), (b 0), (b 0), (b 0), (.str [])] [(0, 1, (t 7))]), m 5 (.alloc 3 [(i 0), (b 0), (b 0), (b 0), (b 0), (b 0), (b 0), (b 0), (b 0), (i 0), (i 0), (b 0), (b 0), (b 0), (b 0), (b 0), (b 0), (b 0), (b 0), (b 0), (b 0), (b 0), (b 0), (b 0), (b 0), (b 0), (b 0), (i 0), (b 0), (b 0), (b 0), (b 0), (b 0), (b 0), (b 0), (b 0), (b 0), (b 0), (b 0), (b 0), (b 0), (b 0), (b 0), (b 0), (i 0), (b 0), (b 0), (b 0), (b 0), (b 0), (b 0), (b 0), (b 0), (b 0), (b 0), (b 0), (b 0), (b 0), (b 0), (b 0), (b 0), (.str [])]), e (.store 62 (t 5) (t 8))]) <|
  .seq (.seq (.region [m 9 (.field 0 (t 3)), m 10 (.load none (t 9))]) <|
  .cond (t 10) (.region [m 11 (.field 1 (t 2)), m 12 (.load (some 8) (t 11)), m 13 (.field 1 (t 5)), e (.store 8 (t 13) (t 12))]) (.skip)) <|
  .seq (.seq (.region [m 14 (.field 1 (t 3)), m 15 (.load none (t 14))]) <|
  .cond (t 15) (.region [m 16 (.field 9 (t 2)), m 17 (.load none (t 16)), m 18 (.field 9 (t 5)), e (.store 1 (t 18) (t 17))]) (.skip)) <|
  .seq (.seq (.region [m 19 (.field 2 (t 3)), m 20 (.load none (t 19))]) <|
  .cond (t 20) (.dreg [(m 21 (.field 10 (t 2)), []), (m 22 (.load (some 17) (t 21)), [0]), (m 23 (.field 27 (t 2)), []), (m 24 (.load (some 17) (t 23)), [2]), (m 25 (.field 10 (t 5)), [0, 1]), (e (.store 17 (t 25) (t 22)), [4, 1, 0, 1]), (m 26 (.field 27 (t 5)), [0, 1, 2, 3, 4, 5]), (e (.store 17 (t 26) (t 24)), [6, 3, 5, 0, 1, 2, 3, 4, 5])] [(1, 0), (1, 1), (2, 2), (2, 3), (1, 4), (0, 5), (1, 6), (0, 7)] [0, 1, 0, 4, 3, 19, 63, 127]) (.skip)) <|
  .seq (.seq (.region [m 27 (.field 3 (t 3)), m 28 (.load none (t 27))]) <|
  .cond (t 28) (.region [m 29 (.field 44 (t 2)), m 30 (.load (some 17) (t 29)), m 31 (.field 44 (t 5)), e (.store 17 (t 31) (t 30))]) (.skip)) <|
  .seq (.seq (.region [m 32 (.field 0 (t 2)), m 33 (.load none (t 32)), m 34 (.bin .eql .num (t 33) (.c (i 4)))]) <|
  .cond (t 34) (.region [m 35 (.field 61 (t 2)), m 36 (.load none (t 35)), m 37 (.field 61 (t 5)), e (.store 1 (t 37) (t 36))]) (.skip)) <|
  .seq (.region [m 38 (.load (some 62) (t 5)), e (.store 62 (t 4) (t 38))]) <|
  .ret
def vf64 : VFun := ⟨39, 4, vb64, [.cell 4 (some 62)], false⟩
theorem cf64 : cFun Go.Proofs.Tryd.prog rawF false Go.Proofs.Tryd.f64 = some vf64 := by kernel_rfl
theorem T64 {args : List PV} {σ : VHeap} {Post : KP} (h : belH σ.length σ → (∀ c, c ∈ args → bel σ.length c) → vrun Go.Proofs.Tryd.prog σ.length vb64 (argsEnv args) (σ ++ [dd, dd, dd, dd]) (vend vf64 (TrimP σ.length Post))) (hl : args.length ≤ 39 := by exact Nat.le_of_ble_eq_true rfl) : T Go.Proofs.Tryd.prog 64 args σ Post := T.walk Go.Proofs.Tryd.func64 cf64 hl rfl h

/-- vinery/mroute.some -/
@[reducible] def vb65 : VC :=
  .seq (.region [m 1 (.box 0 (t 0)), m 2 (.mov (.c (.bool false)))]) <|
  .seq (.region [m 3 (.load (some 17) (t 1)), m 4 (.call false 84 [(t 3)]), m 5 (.mov (t 4)), g 6 5 true (.field 0 (t 1)), g 7 5 true (.load none (t 6)), g 8 5 true (.bin .gtr .num (t 7) (.c (i 0))), m 9 (.pick (t 5) (t 8) (.c (.bool false))), m 2 (.mov (t 9))]) <|
  .ret
def vf65 : VFun := ⟨10, 1, vb65, [.tmp 2], false⟩
theorem cf65 : cFun Go.Proofs.Tryd.prog rawF false Go.Proofs.Tryd.f65 = some vf65 := by kernel_rfl
theorem T65 {args : List PV} {σ : VHeap} {Post : KP} (h : belH σ.length σ → (∀ c, c ∈ args → bel σ.length c) → vrun Go.Proofs.Tryd.prog σ.length vb65 (argsEnv args) (σ ++ [dd]) (vend vf65 (TrimP σ.length Post))) (hl : args.length ≤ 10 := by exact Nat.le_of_ble_eq_true rfl) : T Go.Proofs.Tryd.prog 65 args σ Post := T.walk Go.Proofs.Tryd.func65 cf65 hl rfl h

/-- vinery/mroute.flows -/
@[reducible] def vb66 : VC :=
  .seq (.region [m 3 (.box 0 (t 0)), m 4 (.box 1 (t 1)), m 6 (.mov (.c (.bool false)))]) <|
  .seq (.seq (.region [m 7 (.load (some 17) (t 3)), m 8 (.call false 84 [(t 7)]), m 9 (.un .not (t 8)), m 10 (.mov (t 9)), g 11 10 false (.load (some 17) (t 4)), g 12 10 false (.call false 84 [(t 11)]), g 13 10 false (.un .not (t 12)), m 14 (.pick (t 10) (.c (.bool true)) (t 13)), m 15 (.mov (t 14)), g 16 15 false (.load (some 17) (t 3)), g 17 15 false (.call false 85 [(t 16)]), m 18 (.pick (t 15) (.c (.bool true)) (t 17))]) <|
  .cond (t 18) (.seq (.region [m 6 (.mov (.c (.bool false)))]) <|
  .ret) (.skip)) <|
  .seq (.seq (.region [m 19 (.field 0 (t 4)), m 20 (.load none (t 19)), m 21 (.bin .gtr .num (t 20) (.c (i 0))), m 22 (.mov (t 21)), g 23 22 true (.load (some 17) (t 4)), g 24 22 true (.call false 85 [(t 23)]), g 25 22 true (.un .not (t 24)), m 26 (.pick (t 22) (t 25) (.c (.bool false)))]) <|
  .cond (t 26) (.seq (.region [m 6 (.mov (.c (.bool false)))]) <|
  .ret) (.skip)) <|
  .seq (.seq (.region [m 27 (.mov (t 2)), m 28 (.mov (t 27)), g 29 28 true (.field 0 (t 3)), g 30 28 true (.load none (t 29)), g 31 28 true (.bin .eql .num (t 30) (.c (i 0))), g 32 28 true (.mov (t 31)), g 33 32 false (.field 0 (t 4)), g 34 32 false (.load none (t 33)), g 35 32 false (.bin .eql .num (t 34) (.c (i 0))), g 36 28 true (.pick (t 32) (.c (.bool true)) (t 35)), m 37 (.pick (t 28) (t 36) (.c (.bool false)))]) <|
  .cond (t 37) (.seq (.region [m 6 (.mov (.c (.bool true)))]) <|
  .ret) (.skip)) <|
  .seq (.region [m 38 (.field 0 (t 3)), m 39 (.load none (t 38)), m 40 (.bin .gtr .num (t 39) (.c (i 0))), m 41 (.mov (t 40)), g 42 41 true (.field 0 (t 3)), g 43 41 true (.load none (t 42)), g 44 41 true (.field 0 (t 4)), g 45 41 true (.load none (t 44)), g 46 41 true (.bin .eql .num (t 43) (t 45)), m 47 (.pick (t 41) (t 46) (.c (.bool false))), m 6 (.mov (t 47))]) <|
  .ret
def vf66 : VFun := ⟨48, 2, vb66, [.tmp 6], false⟩
theorem cf66 : cFun Go.Proofs.Tryd.prog rawF false Go.Proofs.Tryd.f66 = some vf66 := by kernel_rfl
theorem T66 {args : List PV} {σ : VHeap} {Post : KP} (h : belH σ.length σ → (∀ c, c ∈ args → bel σ.length c) → vrun Go.Proofs.Tryd.prog σ.length vb66 (argsEnv args) (σ ++ [dd, dd]) (vend vf66 (TrimP σ.length Post))) (hl : args.length ≤ 48 := by exact Nat.le_of_ble_eq_true rfl) : T Go.Proofs.Tryd.prog 66 args σ Post := T.walk Go.Proofs.Tryd.func66 cf66 hl rfl h

/-- vinery/mroute.long -/
@[reducible] def vb62 : VC :=
  .seq (.region [m 1 (.box 0 (t 0)), m 2 (.newRow 1 1)]) <|
  .seq (.dreg [(m 3 (.field 0 (t 1)), []), (m 4 (.load none (t 3)), [0]), (m 5 (.bin .mul .num (.c (i 8)) (t 4)), [1]), (m 6 (.convInt .u8 (t 5)), [2]), (m 7 (.buildSlice 2 1 1 [(b 0)] [(0, (t 6))]), [3]), (m 8 (.load (some 17) (t 1)), []), (m 9 (.call false 63 [(t 8)]), [5]), (m 10 (.append 3 1 1 (t 7) (t 9)), [4, 6, 6]), (m 2 (.mov (t 10)), [7, 7, 0, 1, 2, 3, 4, 5, 6, 7])] [(1, 0), (1, 1), (2, 2), (2, 3), (2, 5), (2, 6), (0, 4), (0, 7), (2, 8)] [0, 1, 3, 7, 15, 0, 32, 127, 255]) <|
  .ret
def vf62 : VFun := ⟨11, 4, vb62, [.tmp 2], false⟩
theorem cf62 : cFun Go.Proofs.Tryd.prog rawF false Go.Proofs.Tryd.f62 = some vf62 := by kernel_rfl
theorem T62 {args : List PV} {σ : VHeap} {Post : KP} (h : belH σ.length σ → (∀ c, c ∈ args → bel σ.length c) → vrun Go.Proofs.Tryd.prog σ.length vb62 (argsEnv args) (σ ++ [dd, dd, dd, dd]) (vend vf62 (TrimP σ.length Post))) (hl : args.length ≤ 11 := by exact Nat.le_of_ble_eq_true rfl) : T Go.Proofs.Tryd.prog 62 args σ Post := T.walk Go.Proofs.Tryd.func62 cf62 hl rfl h

/-- vinery/mroute.answered -/
@[reducible] def vb67 : VC :=
  .seq (.region [m 2 (.alloc 0 [(i 0), (b 0), (b 0), (b 0), (b 0), (b 0), (b 0), (b 0), (b 0), (i 0), (i 0), (b 0), (b 0), (b 0), (b 0), (b 0), (b 0), (b 0), (b 0), (b 0), (b 0), (b 0), (b 0), (b 0), (b 0), (b 0), (b 0), (i 0), (b 0), (b 0), (b 0), (b 0), (b 0), (b 0), (b 0), (b 0), (b 0), (b 0), (b 0), (b 0), (b 0), (b 0), (b 0), (b 0), (i 0), (b 0), (b 0), (b 0), (b 0), (b 0), (b 0), (b 0), (b 0), (b 0), (b 0), (b 0), (b 0), (b 0), (b 0), (b 0), (b 0), (.str [])]), m 3 (.mov (.c (.bool false)))]) <|
  .seq (.seq (.region [m 8 (.mov (t 0)), m 9 (.bin .neq .num (t 8) (.c (.str []))), m 10 (.mov (t 9)), g 11 10 true (.mov (t 0)), g 12 10 true (.indexStr (t 11) (.c (i 0))), g 13 10 true (.convInt .i64 (t 12)), g 14 10 true (.bin .eql .num (t 13) (.c (i 4))), m 15 (.pick (t 10) (t 14) (.c (.bool false)))]) <|
  .cond (t 15) (.seq (.region [m 16 (.build [(i 0), (b 0), (b 0), (b 0), (b 0), (b 0), (b 0), (b 0), (b 0), (i 0), (i 0), (b 0), (b 0), (b 0), (b 0), (b 0), (b 0), (b 0), (b 0), (b 0), (b 0), (b 0), (b 0), (b 0), (b 0), (b 0), (b 0), (i 0), (b 0), (b 0), (b 0), (b 0), (b 0), (b 0), (b 0), (b 0), (b 0), (b 0), (b 0), (b 0), (b 0), (b 0), (b 0), (b 0), (i 0), (b 0), (b 0), (b 0), (b 0), (b 0), (b 0), (b 0), (b 0), (b 0), (b 0), (b 0), (b 0), (b 0), (b 0), (b 0), (b 0), (.str [])] []), e (.store 62 (t 2) (t 16)), m 3 (.mov (.c (.bool false)))]) <|
  .ret) (.skip)) <|
  .seq (.seq (.region [m 17 (.buildSlice 1 1 2 [(i 0)] [(0, (.c (i 4))), (1, (.c (i 16)))]), m 18 (.len (t 17)), m 19 (.mov (.c (i 0)))]) <|
  .block 0 <| .loop <| .seq (.region [m 20 (.bin .lss .num (t 19) (t 18))]) <|
  .seq (.cond (t 20) (.skip) (.exit 0)) <|
  .seq (.block 1 <| .seq (.region [m 21 (.index 1 (t 17) (t 19)), m 22 (.load none (t 21)), m 5 (.mov (t 22))]) <|
  .seq (.region [m 24 (.mov (t 0)), m 25 (.s2b 2 (t 24)), m 26 (.mov (t 5)), m 27 (.call false 35 [(t 25), (t 26)]), m 23 (.mov (t 27)), m 28 (.extract 0 (t 23)), m 29 (.extract 1 (t 23)), m 6 (.alloc 3 [(i 0), (b 0), (b 0), (b 0), (b 0), (b 0), (b 0), (b 0), (b 0), (i 0), (i 0), (b 0), (b 0), (b 0), (b 0), (b 0), (b 0), (b 0), (b 0), (b 0), (b 0), (b 0), (b 0), (b 0), (b 0), (b 0), (b 0), (i 0), (b 0), (b 0), (b 0), (b 0), (b 0), (b 0), (b 0), (b 0), (b 0), (b 0), (b 0), (b 0), (b 0), (b 0), (b 0), (b 0), (i 0), (b 0), (b 0), (b 0), (b 0), (b 0), (b 0), (b 0), (b 0), (b 0), (b 0), (b 0), (b 0), (b 0), (b 0), (b 0), (b 0), (.str [])]), e (.store 62 (t 6) (t 28)), m 7 (.mov (t 29))]) <|
  .seq (.region [m 30 (.mov (t 7)), m 31 (.bin .eql .num (t 30) (.c (i 0))), m 32 (.mov (t 31)), g 33 32 true (.field 0 (t 6)), g 34 32 true (.load none (t 33)), g 35 32 true (.bin .eql .num (t 34) (.c (i 2))), g 36 32 true (.mov (t 35)), g 37 36 false (.field 0 (t 6)), g 38 36 false (.load none (t 37)), g 39 36 false (.bin .eql .num (t 38) (.c (i 3))), g 40 32 true (.pick (t 36) (.c (.bool true)) (t 39)), m 41 (.pick (t 32) (t 40) (.c (.bool false)))]) <|
  .cond (t 41) (.seq (.region [m 42 (.load (some 62) (t 6)), e (.store 62 (t 2) (t 42)), m 3 (.mov (.c (.bool true)))]) <|
  .ret) (.skip)) <|
  .region [m 43 (.bin .add .num (t 19) (.c (i 1))), m 19 (.mov (t 43))]) <|
  .seq (.region [m 44 (.build [(i 0), (b 0), (b 0), (b 0), (b 0), (b 0), (b 0), (b 0), (b 0), (i 0), (i 0), (b 0), (b 0), (b 0), (b 0), (b 0), (b 0), (b 0), (b 0), (b 0), (b 0), (b 0), (b 0), (b 0), (b 0), (b 0), (b 0), (i 0), (b 0), (b 0), (b 0), (b 0), (b 0), (b 0), (b 0), (b 0), (b 0), (b 0), (b 0), (b 0), (b 0), (b 0), (b 0), (b 0), (i 0), (b 0), (b 0), (b 0), (b 0), (b 0), (b 0), (b 0), (b 0), (b 0), (b 0), (b 0), (b 0), (b 0), (b 0), (b 0), (b 0), (.str [])] []), e (.store 62 (t 2) (t 44)), m 3 (.mov (.c (.bool false)))]) <|
  .ret
def vf67 : VFun := ⟨45, 4, vb67, [.cell 2 (some 62), .tmp 3], false⟩
theorem cf67 : cFun Go.Proofs.Tryd.prog rawF false Go.Proofs.Tryd.f67 = some vf67 := by kernel_rfl
theorem T67 {args : List PV} {σ : VHeap} {Post : KP} (h : belH σ.length σ → (∀ c, c ∈ args → bel σ.length c) → vrun Go.Proofs.Tryd.prog σ.length vb67 (argsEnv args) (σ ++ [dd, dd, dd, dd]) (vend vf67 (TrimP σ.length Post))) (hl : args.length ≤ 45 := by exact Nat.le_of_ble_eq_true rfl) : T Go.Proofs.Tryd.prog 67 args σ Post := T.walk Go.Proofs.Tryd.func67 cf67 hl rfl h

/-- vinery/mroute.Right -/
@[reducible] def vb32 : VC :=
  .seq (.region [m 1 (.box 0 (t 0)), m 2 (.mov (.c (.bool false)))]) <|
  .seq (.region [m 8 (.field 0 (t 1)), m 9 (.load none (t 8)), m 10 (.call false 60 [(t 9)]), m 7 (.mov (t 10)), m 11 (.extract 0 (t 7)), m 12 (.extract 1 (t 7)), m 3 (.alloc 1 [(.bool false), (.bool false), (.bool false), (.bool false)]), e (.store 4 (t 3) (t 11)), m 4 (.mov (t 12))]) <|
  .seq (.block 0 <| .seq (.seq (.region [m 14 (.mov (t 4)), m 15 (.un .not (t 14)), m 13 (.mov (t 15))]) <|
  .cond (t 13) (.skip) (.seq (.dreg [(m 16 (.load (some 62) (t 1)), []), (m 17 (.load (some 4) (t 3)), []), (m 18 (.call false 64 [(t 16), (t 17)]), [0, 1]), (m 19 (.load (some 62) (t 1)), []), (m 20 (.eqAgg [(.i .i64), (.i .u8), (.i .u8), (.i .u8), (.i .u8), (.i .u8), (.i .u8), (.i .u8), (.i .u8), (.i .i64), (.i .i64), (.i .u8), (.i .u8), (.i .u8), (.i .u8), (.i .u8), (.i .u8), (.i .u8), (.i .u8), (.i .u8), (.i .u8), (.i .u8), (.i .u8), (.i .u8), (.i .u8), (.i .u8), (.i .u8), (.i .i64), (.i .u8), (.i .u8), (.i .u8), (.i .u8), (.i .u8), (.i .u8), (.i .u8), (.i .u8), (.i .u8), (.i .u8), (.i .u8), (.i .u8), (.i .u8), (.i .u8), (.i .u8), (.i .u8), (.i .i64), (.i .u8), (.i .u8), (.i .u8), (.i .u8), (.i .u8), (.i .u8), (.i .u8), (.i .u8), (.i .u8), (.i .u8), (.i .u8), (.i .u8), (.i .u8), (.i .u8), (.i .u8), (.i .u8), .s] true (t 18) (t 19)), [2, 3]), (m 13 (.mov (t 20)), [4, 2])] [(1, 0), (1, 1), (1, 2), (1, 3), (2, 4), (2, 5)] [0, 0, 3, 0, 15, 31]) <|
  .cond (t 13) (.skip) (.seq (.region [m 21 (.field 9 (t 1)), m 22 (.load none (t 21)), m 23 (.bin .lss .num (t 22) (.c (i 0))), m 13 (.mov (t 23))]) <|
  .cond (t 13) (.skip) (.region [m 24 (.field 9 (t 1)), m 25 (.load none (t 24)), m 26 (.bin .gtr .num (t 25) (.c (i 4294967295))), m 13 (.mov (t 26))])))) <|
  .cond (t 13) (.seq (.region [m 2 (.mov (.c (.bool false)))]) <|
  .ret) (.seq (.region [m 28 (.field 3 (t 3)), m 29 (.load none (t 28)), m 30 (.mov (t 29)), g 31 30 true (.field 44 (t 1)), g 32 30 true (.load (some 17) (t 31)), g 33 30 true (.call false 65 [(t 32)]), g 34 30 true (.un .not (t 33)), m 35 (.pick (t 30) (t 34) (.c (.bool false))), m 27 (.mov (t 35))]) <|
  .cond (t 27) (.seq (.region [m 2 (.mov (.c (.bool false)))]) <|
  .ret) (.seq (.region [m 37 (.field 2 (t 3)), m 38 (.load none (t 37)), m 39 (.mov (t 38)), g 40 39 true (.field 10 (t 1)), g 41 39 true (.load (some 17) (t 40)), g 42 39 true (.field 27 (t 1)), g 43 39 true (.load (some 17) (t 42)), g 44 39 true (.field 0 (t 1)), g 45 39 true (.load none (t 44)), g 46 39 true (.bin .eql .num (t 45) (.c (i 3))), g 47 39 true (.call false 66 [(t 41), (t 43), (t 46)]), g 48 39 true (.un .not (t 47)), m 49 (.pick (t 39) (t 48) (.c (.bool false))), m 36 (.mov (t 49))]) <|
  .cond (t 36) (.seq (.region [m 2 (.mov (.c (.bool false)))]) <|
  .ret) (.seq (.region [m 51 (.field 0 (t 1)), m 52 (.load none (t 51)), m 53 (.bin .eql .num (t 52) (.c (i 4))), m 50 (.mov (t 53))]) <|
  .cond (t 50) (.seq (.region [m 55 (.field 61 (t 1)), m 56 (.load none (t 55)), m 57 (.call false 67 [(t 56)]), m 54 (.mov (t 57)), m 58 (.extract 0 (t 54)), m 59 (.extract 1 (t 54)), m 5 (.alloc 2 [(i 0), (b 0), (b 0), (b 0), (b 0), (b 0), (b 0), (b 0), (b 0), (i 0), (i 0), (b 0), (b 0), (b 0), (b 0), (b 0), (b 0), (b 0), (b 0), (b 0), (b 0), (b 0), (b 0), (b 0), (b 0), (b 0), (b 0), (i 0), (b 0), (b 0), (b 0), (b 0), (b 0), (b 0), (b 0), (b 0), (b 0), (b 0), (b 0), (b 0), (b 0), (b 0), (b 0), (b 0), (i 0), (b 0), (b 0), (b 0), (b 0), (b 0), (b 0), (b 0), (b 0), (b 0), (b 0), (b 0), (b 0), (b 0), (b 0), (b 0), (b 0), (.str [])]), e (.store 62 (t 5) (t 58)), m 6 (.mov (t 59))]) <|
  .seq (.region [m 60 (.mov (t 6)), m 2 (.mov (t 60))]) <|
  .ret) (.skip))))) <|
  .seq (.region [m 2 (.mov (.c (.bool true)))]) <|
  .ret
def vf32 : VFun := ⟨61, 3, vb32, [.tmp 2], false⟩
theorem cf32 : cFun Go.Proofs.Tryd.prog rawF false Go.Proofs.Tryd.f32 = some vf32 := by kernel_rfl
theorem T32 {args : List PV} {σ : VHeap} {Post : KP} (h : belH σ.length σ → (∀ c, c ∈ args → bel σ.length c) → vrun Go.Proofs.Tryd.prog σ.length vb32 (argsEnv args) (σ ++ [dd, dd, dd]) (vend vf32 (TrimP σ.length Post))) (hl : args.length ≤ 61 := by exact Nat.le_of_ble_eq_true rfl) : T Go.Proofs.Tryd.prog 32 args σ Post := T.walk Go.Proofs.Tryd.func32 cf32 hl rfl h

/-- vinery/mroute.Bytes -/
@[reducible] def vb31 : VC :=
  .seq (.region [m 1 (.box 0 (t 0)), m 2 (.newRow 1 1), m 3 (.mov (.c (i 0)))]) <|
  .seq (.seq (.region [m 7 (.load (some 62) (t 1)), m 8 (.call false 32 [(t 7)]), m 9 (.un .not (t 8))]) <|
  .cond (t 9) (.seq (.region [m 2 (.newRow 1 1), m 3 (.mov (.c (i 1)))]) <|
  .ret) (.skip)) <|
  .seq (.region [m 11 (.field 0 (t 1)), m 12 (.load none (t 11)), m 13 (.call false 60 [(t 12)]), m 10 (.mov (t 13)), m 14 (.extract 0 (t 10)), m 15 (.extract 1 (t 10)), m 4 (.alloc 2 [(.bool false), (.bool false), (.bool false), (.bool false)]), e (.store 4 (t 4) (t 14)), m 5 (.mov (t 15))]) <|
  .seq (.region [m 16 (.field 61 (t 1)), m 17 (.load none (t 16)), m 18 (.s2b 3 (t 17)), m 6 (.mov (t 18))]) <|
  .seq (.seq (.region [m 19 (.field 0 (t 4)), m 20 (.load none (t 19))]) <|
  .cond (t 20) (.region [m 21 (.mov (t 6)), m 22 (.field 1 (t 1)), m 23 (.sliceArr 8 1 (t 22) none none), m 24 (.append 4 1 1 (t 21) (t 23)), m 6 (.mov (t 24))]) (.skip)) <|
  .seq (.seq (.region [m 25 (.field 1 (t 4)), m 26 (.load none (t 25))]) <|
  .cond (t 26) (.region [m 28 (.mov (t 6)), m 29 (.field 9 (t 1)), m 30 (.load none (t 29)), m 31 (.call false 61 [(t 28), (t 30), (.c (i 4))]), m 27 (.mov (t 31)), m 32 (.extract 0 (t 27)), m 33 (.extract 1 (t 27)), m 6 (.mov (t 32))]) (.skip)) <|
  .seq (.seq (.region [m 34 (.field 2 (t 4)), m 35 (.load none (t 34))]) <|
  .cond (t 35) (.dreg [(m 36 (.mov (t 6)), []), (m 37 (.field 10 (t 1)), []), (m 38 (.load (some 17) (t 37)), [1]), (m 39 (.call false 62 [(t 38)]), [2]), (m 40 (.append 5 1 1 (t 36) (t 39)), [0, 3, 3]), (m 41 (.field 27 (t 1)), []), (m 42 (.load (some 17) (t 41)), [5]), (m 43 (.call false 62 [(t 42)]), [6, 4]), (m 44 (.append 6 1 1 (t 40) (t 43)), [4, 7, 7]), (m 6 (.mov (t 44)), [8, 8, 0, 1, 2, 3, 4, 5, 6, 7, 8])] [(2, 0), (1, 1), (1, 2), (1, 3), (2, 5), (2, 6), (0, 4), (1, 7), (0, 8), (2, 9)] [0, 0, 2, 6, 15, 0, 32, 127, 255, 511]) (.skip)) <|
  .seq (.seq (.region [m 45 (.field 3 (t 4)), m 46 (.load none (t 45))]) <|
  .cond (t 46) (.region [m 47 (.mov (t 6)), m 48 (.field 44 (t 1)), m 49 (.load (some 17) (t 48)), m 50 (.call false 63 [(t 49)]), m 51 (.append 7 1 1 (t 47) (t 50)), m 6 (.mov (t 51))]) (.skip)) <|
  .seq (.region [m 52 (.field 0 (t 1)), m 53 (.load none (t 52)), m 54 (.convInt .u8 (t 53)), m 55 (.mov (t 6)), m 56 (.len (t 55)), m 57 (.convInt .u8 (t 56)), m 58 (.buildSlice 8 1 2 [(b 0)] [(0, (t 54)), (1, (t 57))]), m 59 (.mov (t 6)), m 60 (.append 9 1 1 (t 58) (t 59)), m 2 (.mov (t 60)), m 3 (.mov (.c (i 0)))]) <|
  .ret
def vf31 : VFun := ⟨61, 10, vb31, [.tmp 2, .tmp 3], false⟩
theorem cf31 : cFun Go.Proofs.Tryd.prog rawF false Go.Proofs.Tryd.f31 = some vf31 := by kernel_rfl
theorem T31 {args : List PV} {σ : VHeap} {Post : KP} (h : belH σ.length σ → (∀ c, c ∈ args → bel σ.length c) → vrun Go.Proofs.Tryd.prog σ.length vb31 (argsEnv args) (σ ++ [dd, dd, dd, dd, dd, dd, dd, dd, dd, dd]) (vend vf31 (TrimP σ.length Post))) (hl : args.length ≤ 61 := by exact Nat.le_of_ble_eq_true rfl) : T Go.Proofs.Tryd.prog 31 args σ Post := T.walk Go.Proofs.Tryd.func31 cf31 hl rfl h

/-- vinery/mroute.read$1 -/
@[reducible] def vb94 : VC :=
  .seq (.region [m 4 (.alloc 0 [(i 0), (b 0), (b 0), (b 0), (b 0), (b 0), (b 0), (b 0), (b 0), (b 0), (b 0), (b 0), (b 0), (b 0), (b 0), (b 0), (b 0)])]) <|
  .seq (.region [m 7 (.load none (t 1)), m 8 (.mov (t 0)), m 9 (.call false 48 [(t 7), (t 8)]), m 10 (.call false 89 [(t 9)]), m 6 (.mov (t 10)), m 11 (.extract 0 (t 6)), m 12 (.extract 1 (t 6)), e (.store 17 (t 4) (t 11)), m 5 (.mov (t 12))]) <|
  .seq (.region [m 13 (.load none (t 2)), m 14 (.mov (t 13)), g 15 14 true (.mov (t 5)), g 16 14 true (.bin .eql .num (t 15) (.c (i 0))), m 17 (.pick (t 14) (t 16) (.c (.bool false))), e (.store 1 (t 2) (t 17))]) <|
  .seq (.region [m 18 (.load (some 17) (t 4)), e (.store 17 (t 4) (t 18))]) <|
  .ret
def vf94 : VFun := ⟨19, 1, vb94, [.cell 4 (some 17)], false⟩
theorem cf94 : cFun Go.Proofs.Tryd.prog rawF false Go.Proofs.Tryd.f94 = some vf94 := by kernel_rfl
theorem T94 {args : List PV} {σ : VHeap} {Post : KP} (h : belH σ.length σ → (∀ c, c ∈ args → bel σ.length c) → vrun Go.Proofs.Tryd.prog σ.length vb94 (argsEnv args) (σ ++ [dd]) (vend vf94 (TrimP σ.length Post))) (hl : args.length ≤ 19 := by exact Nat.le_of_ble_eq_true rfl) : T Go.Proofs.Tryd.prog 94 args σ Post := T.walk Go.Proofs.Tryd.func94 cf94 hl rfl h

/-- vinery/mroute.read$2 -/
@[reducible] def vb95 : VC :=
  .seq (.region [m 3 (.alloc 0 [(i 0), (b 0), (b 0), (b 0), (b 0), (b 0), (b 0), (b 0), (b 0), (b 0), (b 0), (b 0), (b 0), (b 0), (b 0), (b 0), (b 0)])]) <|
  .seq (.region [m 5 (.load none (t 0)), m 6 (.call false 44 [(t 5), (.c (i 1))]), m 4 (.mov (t 6))]) <|
  .seq (.region [m 7 (.load none (t 1)), m 8 (.mov (t 7)), g 9 8 true (.mov (t 4)), g 10 8 true (.bin .rem .num (t 9) (.c (i 8))), g 11 8 true (.bin .eql .num (t 10) (.c (i 0))), m 12 (.pick (t 8) (t 11) (.c (.bool false))), e (.store 1 (t 1) (t 12))]) <|
  .seq (.region [m 13 (.load none (t 2)), m 14 (.mov (t 4)), m 15 (.bin .quo .num (t 14) (.c (i 8))), m 16 (.callV (t 13) [(t 15)]), e (.store 17 (t 3) (t 16))]) <|
  .ret
def vf95 : VFun := ⟨17, 1, vb95, [.cell 3 (some 17)], false⟩
theorem cf95 : cFun Go.Proofs.Tryd.prog rawF false Go.Proofs.Tryd.f95 = some vf95 := by kernel_rfl
theorem T95 {args : List PV} {σ : VHeap} {Post : KP} (h : belH σ.length σ → (∀ c, c ∈ args → bel σ.length c) → vrun Go.Proofs.Tryd.prog σ.length vb95 (argsEnv args) (σ ++ [dd]) (vend vf95 (TrimP σ.length Post))) (hl : args.length ≤ 17 := by exact Nat.le_of_ble_eq_true rfl) : T Go.Proofs.Tryd.prog 95 args σ Post := T.walk Go.Proofs.Tryd.func95 cf95 hl rfl h

/-- vinery/mroute.read -/
@[reducible] def vb74 : VC :=
  .seq (.region [m 4 (.box 0 (t 1)), m 6 (.alloc 1 [(i 0), (b 0), (b 0), (b 0), (b 0), (b 0), (b 0), (b 0), (b 0), (i 0), (i 0), (b 0), (b 0), (b 0), (b 0), (b 0), (b 0), (b 0), (b 0), (b 0), (b 0), (b 0), (b 0), (b 0), (b 0), (b 0), (b 0), (i 0), (b 0), (b 0), (b 0), (b 0), (b 0), (b 0), (b 0), (b 0), (b 0), (b 0), (b 0), (b 0), (b 0), (b 0), (b 0), (b 0), (i 0), (b 0), (b 0), (b 0), (b 0), (b 0), (b 0), (b 0), (b 0), (b 0), (b 0), (b 0), (b 0), (b 0), (b 0), (b 0), (b 0), (.str [])]), m 7 (.mov (.c (.bool false)))]) <|
  .seq (.region [m 13 (.mov (t 0)), m 14 (.mov (t 2)), m 15 (.build [(i 0), (b 0), (b 0), (b 0), (b 0), (b 0), (b 0), (b 0), (b 0), (i 0), (i 0), (b 0), (b 0), (b 0), (b 0), (b 0), (b 0), (b 0), (b 0), (b 0), (b 0), (b 0), (b 0), (b 0), (b 0), (b 0), (b 0), (i 0), (b 0), (b 0), (b 0), (b 0), (b 0), (b 0), (b 0), (b 0), (b 0), (b 0), (b 0), (b 0), (b 0), (b 0), (b 0), (b 0), (i 0), (b 0), (b 0), (b 0), (b 0), (b 0), (b 0), (b 0), (b 0), (b 0), (b 0), (b 0), (b 0), (b 0), (b 0), (b 0), (b 0), (.str [])] [(0, 1, (t 13)), (61, 1, (t 14))]), m 8 (.alloc 2 [(i 0), (b 0), (b 0), (b 0), (b 0), (b 0), (b 0), (b 0), (b 0), (i 0), (i 0), (b 0), (b 0), (b 0), (b 0), (b 0), (b 0), (b 0), (b 0), (b 0), (b 0), (b 0), (b 0), (b 0), (b 0), (b 0), (b 0), (i 0), (b 0), (b 0), (b 0), (b 0), (b 0), (b 0), (b 0), (b 0), (b 0), (b 0), (b 0), (b 0), (b 0), (b 0), (b 0), (b 0), (i 0), (b 0), (b 0), (b 0), (b 0), (b 0), (b 0), (b 0), (b 0), (b 0), (b 0), (b 0), (b 0), (b 0), (b 0), (b 0), (b 0), (.str [])]), e (.store 62 (t 8) (t 15))]) <|
  .seq (.region [m 17 (.mov (t 0)), m 18 (.call false 60 [(t 17)]), m 16 (.mov (t 18)), m 19 (.extract 0 (t 16)), m 20 (.extract 1 (t 16)), m 9 (.alloc 3 [(.bool false), (.bool false), (.bool false), (.bool false)]), m 10 (.alloc 4 [(.bool false)]), e (.store 4 (t 9) (t 19)), e (.store 1 (t 10) (t 20))]) <|
  .seq (.region [m 21 (.func 94 [(t 4), (t 10)]), m 11 (.alloc 5 [.undef]), e (.store 1 (t 11) (t 21))]) <|
  .seq (.region [m 22 (.func 95 [(t 4), (t 10), (t 11)]), m 12 (.mov (t 22))]) <|
  .seq (.seq (.region [m 23 (.field 0 (t 9)), m 24 (.load none (t 23))]) <|
  .cond (t 24) (.dreg [(m 25 (.field 1 (t 8)), []), (m 26 (.sliceArr 8 1 (t 25) none none), [0]), (m 27 (.load none (t 4)), []), (m 28 (.call false 48 [(t 27), (.c (i 8))]), [2]), (m 29 (.copyTo 1 (t 26) (t 28)), [1, 3, 3])] [(2, 0), (2, 1), (1, 2), (0, 3), (0, 4)] [0, 1, 0, 4, 15]) (.skip)) <|
  .seq (.seq (.region [m 30 (.field 1 (t 9)), m 31 (.load none (t 30))]) <|
  .cond (t 31) (.region [m 32 (.load none (t 4)), m 33 (.call false 44 [(t 32), (.c (i 4))]), m 34 (.field 9 (t 8)), e (.store 1 (t 34) (t 33))]) (.skip)) <|
  .seq (.seq (.region [m 35 (.field 2 (t 9)), m 36 (.load none (t 35))]) <|
  .cond (t 36) (.seq (.region [m 37 (.mov (t 12)), m 38 (.callV (t 37) []), m 39 (.field 10 (t 8)), e (.store 17 (t 39) (t 38))]) <|
  .region [m 40 (.mov (t 12)), m 41 (.callV (t 40) []), m 42 (.field 27 (t 8)), e (.store 17 (t 42) (t 41))]) (.skip)) <|
  .seq (.seq (.region [m 43 (.field 3 (t 9)), m 44 (.load none (t 43))]) <|
  .cond (t 44) (.dreg [(m 45 (.load none (t 11)), []), (m 46 (.load none (t 4)), []), (m 47 (.nilCheck (t 46)), [1]), (m 48 (.field 0 (t 47)), [2]), (m 49 (.call false 49 [(t 48)]), [3]), (m 50 (.callV (t 45) [(t 49)]), [0, 4, 4]), (m 51 (.field 44 (t 8)), [0, 1, 2, 3, 4, 5]), (e (.store 17 (t 51) (t 50)), [6, 5, 5, 0, 1, 2, 3, 4, 5])] [(2, 0), (1, 1), (1, 2), (1, 3), (0, 4), (0, 5), (1, 6), (0, 7)] [0, 0, 2, 6, 14, 31, 63, 127]) (.skip)) <|
  .seq (.dreg [(m 52 (.load (some 62) (t 8)), []), (m 53 (.load none (t 10)), []), (m 54 (.mov (t 53)), [1]), (g 55 54 true (.load none (t 4)), [2]), (g 56 54 true (.nilCheck (t 55)), [3, 2]), (g 57 54 true (.field 0 (t 56)), [4, 2]), (g 58 54 true (.call false 46 [(t 57)]), [5, 2, 2]), (g 59 54 true (.un .not (t 58)), [6, 2]), (m 60 (.pick (t 54) (t 59) (.c (.bool false))), [2, 7]), (m 61 (.mov (t 60)), [8, 6]), (g 62 61 true (.load none (t 4)), [9]), (g 63 61 true (.nilCheck (t 62)), [10, 9]), (g 64 61 true (.field 0 (t 63)), [11, 9]), (g 65 61 true (.call false 49 [(t 64)]), [12, 9, 9]), (g 66 61 true (.bin .eql .num (t 65) (.c (i 0))), [13, 9]), (m 67 (.pick (t 61) (t 66) (.c (.bool false))), [9, 14]), (e (.store 62 (t 6) (t 52)), [0, 13, 0]), (m 7 (.mov (t 67)), [15, 16, 0, 1, 2, 3, 4, 5, 6, 7, 8, 9, 10, 11, 12, 13, 14, 15, 16])] [(2, 0), (1, 1), (2, 2), (1, 3), (1, 4), (1, 5), (0, 6), (2, 7), (2, 8), (2, 9), (1, 10), (1, 11), (1, 12), (0, 13), (2, 14), (2, 15), (0, 16), (2, 17)] [0, 0, 2, 6, 14, 30, 62, 126, 254, 510, 1022, 2046, 4094, 8190, 16382, 32766, 16383, 131071]) <|
  .ret
def vf74 : VFun := ⟨68, 6, vb74, [.cell 6 (some 62), .tmp 7], false⟩
theorem cf74 : cFun Go.Proofs.Tryd.prog rawF false Go.Proofs.Tryd.f74 = some vf74 := by kernel_rfl
theorem T74 {args : List PV} {σ : VHeap} {Post : KP} (h : belH σ.length σ → (∀ c, c ∈ args → bel σ.length c) → vrun Go.Proofs.Tryd.prog σ.length vb74 (argsEnv args) (σ ++ [dd, dd, dd, dd, dd, dd]) (vend vf74 (TrimP σ.length Post))) (hl : args.length ≤ 68 := by exact Nat.le_of_ble_eq_true rfl) : T Go.Proofs.Tryd.prog 74 args σ Post := T.walk Go.Proofs.Tryd.func74 cf74 hl rfl h

/-- vinery/mroute.sized -/
@[reducible] def vb75 : VC :=
  .seq (.region [m 2 (.box 0 (t 0)), m 4 (.mov (.c (.bool false)))]) <|
  .seq (.seq (.region [m 9 (.field 10 (t 2)), m 10 (.load (some 17) (t 9)), m 11 (.field 27 (t 2)), m 12 (.load (some 17) (t 11)), m 13 (.buildSlice 1 17 2 [(i 0), (b 0), (b 0), (b 0), (b 0), (b 0), (b 0), (b 0), (b 0), (b 0), (b 0), (b 0), (b 0), (b 0), (b 0), (b 0), (b 0)] [(0, (t 10)), (1, (t 12))]), m 14 (.len (t 13)), m 15 (.mov (.c (i 0)))]) <|
  .block 0 <| .loop <| .seq (.region [m 16 (.bin .lss .num (t 15) (t 14))]) <|
  .seq (.cond (t 16) (.skip) (.exit 0)) <|
  .seq (.block 1 <| .seq (.region [m 17 (.index 17 (t 13) (t 15)), m 18 (.load (some 17) (t 17)), m 6 (.alloc 2 [(i 0), (b 0), (b 0), (b 0), (b 0), (b 0), (b 0), (b 0), (b 0), (b 0), (b 0), (b 0), (b 0), (b 0), (b 0), (b 0), (b 0)]), e (.store 17 (t 6) (t 18))]) <|
  .seq (.region [m 19 (.field 0 (t 6)), m 20 (.load none (t 19)), m 21 (.bin .neq .num (t 20) (.c (i 0))), m 22 (.mov (t 21)), g 23 22 true (.field 0 (t 6)), g 24 22 true (.load none (t 23)), g 25 22 true (.mov (t 1)), g 26 22 true (.bin .neq .num (t 24) (t 25)), m 27 (.pick (t 22) (t 26) (.c (.bool false)))]) <|
  .cond (t 27) (.seq (.region [m 4 (.mov (.c (.bool false)))]) <|
  .ret) (.skip)) <|
  .region [m 28 (.bin .add .num (t 15) (.c (i 1))), m 15 (.mov (t 28))]) <|
  .seq (.seq (.region [m 29 (.field 0 (t 2)), m 30 (.load none (t 29)), m 31 (.bin .neq .num (t 30) (.c (i 4)))]) <|
  .cond (t 31) (.seq (.region [m 4 (.mov (.c (.bool true)))]) <|
  .ret) (.skip)) <|
  .seq (.region [m 33 (.field 61 (t 2)), m 34 (.load none (t 33)), m 35 (.s2b 3 (t 34)), m 36 (.mov (t 1)), m 37 (.call false 35 [(t 35), (t 36)]), m 32 (.mov (t 37)), m 38 (.extract 0 (t 32)), m 39 (.extract 1 (t 32)), m 7 (.alloc 4 [(i 0), (b 0), (b 0), (b 0), (b 0), (b 0), (b 0), (b 0), (b 0), (i 0), (i 0), (b 0), (b 0), (b 0), (b 0), (b 0), (b 0), (b 0), (b 0), (b 0), (b 0), (b 0), (b 0), (b 0), (b 0), (b 0), (b 0), (i 0), (b 0), (b 0), (b 0), (b 0), (b 0), (b 0), (b 0), (b 0), (b 0), (b 0), (b 0), (b 0), (b 0), (b 0), (b 0), (b 0), (i 0), (b 0), (b 0), (b 0), (b 0), (b 0), (b 0), (b 0), (b 0), (b 0), (b 0), (b 0), (b 0), (b 0), (b 0), (b 0), (b 0), (.str [])]), e (.store 62 (t 7) (t 38)), m 8 (.mov (t 39))]) <|
  .seq (.region [m 40 (.mov (t 8)), m 41 (.bin .eql .num (t 40) (.c (i 0))), m 4 (.mov (t 41))]) <|
  .ret
def vf75 : VFun := ⟨42, 5, vb75, [.tmp 4], false⟩
theorem cf75 : cFun Go.Proofs.Tryd.prog rawF false Go.Proofs.Tryd.f75 = some vf75 := by kernel_rfl
theorem T75 {args : List PV} {σ : VHeap} {Post : KP} (h : belH σ.length σ → (∀ c, c ∈ args → bel σ.length c) → vrun Go.Proofs.Tryd.prog σ.length vb75 (argsEnv args) (σ ++ [dd, dd, dd, dd, dd]) (vend vf75 (TrimP σ.length Post))) (hl : args.length ≤ 42 := by exact Nat.le_of_ble_eq_true rfl) : T Go.Proofs.Tryd.prog 75 args σ Post := T.walk Go.Proofs.Tryd.func75 cf75 hl rfl h

/-- vinery/mroute.Take -/
@[reducible] def vb36 : VC :=
  .seq (.region [m 4 (.alloc 0 [(i 0), (b 0), (b 0), (b 0), (b 0), (b 0), (b 0), (b 0), (b 0), (i 0), (i 0), (b 0), (b 0), (b 0), (b 0), (b 0), (b 0), (b 0), (b 0), (b 0), (b 0), (b 0), (b 0), (b 0), (b 0), (b 0), (b 0), (i 0), (b 0), (b 0), (b 0), (b 0), (b 0), (b 0), (b 0), (b 0), (b 0), (b 0), (b 0), (b 0), (b 0), (b 0), (b 0), (b 0), (i 0), (b 0), (b 0), (b 0), (b 0), (b 0), (b 0), (b 0), (b 0), (b 0), (b 0), (b 0), (b 0), (b 0), (b 0), (b 0), (b 0), (.str [])]), m 5 (.mov (.c (i 0))), m 6 (.mov (.c (i 0)))]) <|
  .seq (.seq (.region [m 15 (.mov (t 1)), m 16 (.bin .neq .num (t 15) (.c (i 4))), m 17 (.mov (t 16)), g 18 17 true (.mov (t 1)), g 19 17 true (.bin .neq .num (t 18) (.c (i 16))), m 20 (.pick (t 17) (t 19) (.c (.bool false)))]) <|
  .cond (t 20) (.seq (.region [m 21 (.build [(i 0), (b 0), (b 0), (b 0), (b 0), (b 0), (b 0), (b 0), (b 0), (i 0), (i 0), (b 0), (b 0), (b 0), (b 0), (b 0), (b 0), (b 0), (b 0), (b 0), (b 0), (b 0), (b 0), (b 0), (b 0), (b 0), (b 0), (i 0), (b 0), (b 0), (b 0), (b 0), (b 0), (b 0), (b 0), (b 0), (b 0), (b 0), (b 0), (b 0), (b 0), (b 0), (b 0), (b 0), (i 0), (b 0), (b 0), (b 0), (b 0), (b 0), (b 0), (b 0), (b 0), (b 0), (b 0), (b 0), (b 0), (b 0), (b 0), (b 0), (b 0), (.str [])] []), e (.store 62 (t 4) (t 21)), m 5 (.mov (.c (i 0))), m 6 (.mov (.c (i 1)))]) <|
  .ret) (.skip)) <|
  .seq (.region [m 22 (.mov (t 0)), m 23 (.call false 43 [(t 22)]), m 7 (.mov (t 23))]) <|
  .seq (.region [m 24 (.mov (t 7)), m 25 (.call false 44 [(t 24), (.c (i 1))]), m 8 (.mov (t 25))]) <|
  .seq (.region [m 26 (.mov (t 7)), m 27 (.call false 44 [(t 26), (.c (i 1))]), m 9 (.mov (t 27))]) <|
  .seq (.region [m 28 (.mov (t 7)), m 29 (.mov (t 9)), m 30 (.call false 45 [(t 28), (t 29)]), m 10 (.mov (t 30))]) <|
  .seq (.seq (.region [m 31 (.mov (t 7)), m 32 (.nilCheck (t 31)), m 33 (.field 0 (t 32)), m 34 (.call false 46 [(t 33)])]) <|
  .cond (t 34) (.seq (.region [m 35 (.build [(i 0), (b 0), (b 0), (b 0), (b 0), (b 0), (b 0), (b 0), (b 0), (i 0), (i 0), (b 0), (b 0), (b 0), (b 0), (b 0), (b 0), (b 0), (b 0), (b 0), (b 0), (b 0), (b 0), (b 0), (b 0), (b 0), (b 0), (i 0), (b 0), (b 0), (b 0), (b 0), (b 0), (b 0), (b 0), (b 0), (b 0), (b 0), (b 0), (b 0), (b 0), (b 0), (b 0), (b 0), (i 0), (b 0), (b 0), (b 0), (b 0), (b 0), (b 0), (b 0), (b 0), (b 0), (b 0), (b 0), (b 0), (b 0), (b 0), (b 0), (b 0), (.str [])] []), e (.store 62 (t 4) (t 35)), m 5 (.mov (.c (i 0))), m 6 (.mov (.c (i 3)))]) <|
  .ret) (.skip)) <|
  .seq (.region [m 11 (.mov (.c (.str [])))]) <|
  .seq (.seq (.region [m 36 (.mov (t 8)), m 37 (.bin .eql .num (t 36) (.c (i 4)))]) <|
  .cond (t 37) (.seq (.region [m 38 (.mov (t 10)), m 39 (.call false 48 [(t 38), (.c (i 2))]), m 12 (.mov (t 39))]) <|
  .seq (.seq (.region [m 40 (.mov (t 10)), m 41 (.nilCheck (t 40)), m 42 (.field 0 (t 41)), m 43 (.call false 46 [(t 42)])]) <|
  .cond (t 43) (.seq (.region [m 44 (.build [(i 0), (b 0), (b 0), (b 0), (b 0), (b 0), (b 0), (b 0), (b 0), (i 0), (i 0), (b 0), (b 0), (b 0), (b 0), (b 0), (b 0), (b 0), (b 0), (b 0), (b 0), (b 0), (b 0), (b 0), (b 0), (b 0), (b 0), (i 0), (b 0), (b 0), (b 0), (b 0), (b 0), (b 0), (b 0), (b 0), (b 0), (b 0), (b 0), (b 0), (b 0), (b 0), (b 0), (b 0), (i 0), (b 0), (b 0), (b 0), (b 0), (b 0), (b 0), (b 0), (b 0), (b 0), (b 0), (b 0), (b 0), (b 0), (b 0), (b 0), (b 0), (.str [])] []), e (.store 62 (t 4) (t 44)), m 5 (.mov (.c (i 0))), m 6 (.mov (.c (i 4)))]) <|
  .ret) (.skip)) <|
  .dreg [(m 45 (.mov (t 12)), []), (m 46 (.b2s (t 45)), [0]), (m 47 (.mov (t 10)), []), (m 48 (.mov (t 12)), []), (m 49 (.index 1 (t 48) (.c (i 1))), [3]), (m 50 (.load none (t 49)), [4]), (m 51 (.convInt .i64 (t 50)), [5]), (m 52 (.call false 48 [(t 47), (t 51)]), [2, 6]), (m 53 (.b2s (t 52)), [7]), (m 54 (.bin .add .num (t 46) (t 53)), [1, 8]), (m 11 (.mov (t 54)), [9, 7, 0, 1, 2, 3, 4, 5, 6, 7, 8, 9])] [(2, 0), (2, 1), (2, 2), (2, 3), (1, 4), (1, 5), (2, 6), (0, 7), (1, 8), (2, 9), (2, 10)] [0, 1, 0, 0, 8, 24, 56, 124, 252, 511, 1023]) (.skip)) <|
  .seq (.region [m 56 (.mov (t 8)), m 57 (.mov (t 10)), m 58 (.mov (t 11)), m 59 (.call false 74 [(t 56), (t 57), (t 58)]), m 55 (.mov (t 59)), m 60 (.extract 0 (t 55)), m 61 (.extract 1 (t 55)), m 13 (.alloc 1 [(i 0), (b 0), (b 0), (b 0), (b 0), (b 0), (b 0), (b 0), (b 0), (i 0), (i 0), (b 0), (b 0), (b 0), (b 0), (b 0), (b 0), (b 0), (b 0), (b 0), (b 0), (b 0), (b 0), (b 0), (b 0), (b 0), (b 0), (i 0), (b 0), (b 0), (b 0), (b 0), (b 0), (b 0), (b 0), (b 0), (b 0), (b 0), (b 0), (b 0), (b 0), (b 0), (b 0), (b 0), (i 0), (b 0), (b 0), (b 0), (b 0), (b 0), (b 0), (b 0), (b 0), (b 0), (b 0), (b 0), (b 0), (b 0), (b 0), (b 0), (b 0), (.str [])]), e (.store 62 (t 13) (t 60)), m 14 (.mov (t 61))]) <|
  .seq (.seq (.region [m 62 (.mov (t 14)), m 63 (.un .not (t 62)), m 64 (.mov (t 63)), g 65 64 false (.load (some 62) (t 13)), g 66 64 false (.call false 32 [(t 65)]), g 67 64 false (.un .not (t 66)), m 68 (.pick (t 64) (.c (.bool true)) (t 67)), m 69 (.mov (t 68)), g 70 69 false (.load (some 62) (t 13)), g 71 69 false (.mov (t 1)), g 72 69 false (.call false 75 [(t 70), (t 71)]), g 73 69 false (.un .not (t 72)), m 74 (.pick (t 69) (.c (.bool true)) (t 73))]) <|
  .cond (t 74) (.seq (.region [m 75 (.build [(i 0), (b 0), (b 0), (b 0), (b 0), (b 0), (b 0), (b 0), (b 0), (i 0), (i 0), (b 0), (b 0), (b 0), (b 0), (b 0), (b 0), (b 0), (b 0), (b 0), (b 0), (b 0), (b 0), (b 0), (b 0), (b 0), (b 0), (i 0), (b 0), (b 0), (b 0), (b 0), (b 0), (b 0), (b 0), (b 0), (b 0), (b 0), (b 0), (b 0), (b 0), (b 0), (b 0), (b 0), (i 0), (b 0), (b 0), (b 0), (b 0), (b 0), (b 0), (b 0), (b 0), (b 0), (b 0), (b 0), (b 0), (b 0), (b 0), (b 0), (b 0), (.str [])] []), e (.store 62 (t 4) (t 75)), m 5 (.mov (.c (i 0))), m 6 (.mov (.c (i 4)))]) <|
  .ret) (.skip)) <|
  .seq (.region [m 76 (.load (some 62) (t 13)), m 77 (.mov (t 9)), m 78 (.bin .add .num (.c (i 2)) (t 77)), e (.store 62 (t 4) (t 76)), m 5 (.mov (t 78)), m 6 (.mov (.c (i 0)))]) <|
  .ret
def vf36 : VFun := ⟨79, 2, vb36, [.cell 4 (some 62), .tmp 5, .tmp 6], false⟩
theorem cf36 : cFun Go.Proofs.Tryd.prog rawF false Go.Proofs.Tryd.f36 = some vf36 := by kernel_rfl
theorem T36 {args : List PV} {σ : VHeap} {Post : KP} (h : belH σ.length σ → (∀ c, c ∈ args → bel σ.length c) → vrun Go.Proofs.Tryd.prog σ.length vb36 (argsEnv args) (σ ++ [dd, dd]) (vend vf36 (TrimP σ.length Post))) (hl : args.length ≤ 79 := by exact Nat.le_of_ble_eq_true rfl) : T Go.Proofs.Tryd.prog 36 args σ Post := T.walk Go.Proofs.Tryd.func36 cf36 hl rfl h

/-- vinery/mroute.Parse -/
@[reducible] def vb35 : VC :=
  .seq (.region [m 4 (.alloc 0 [(i 0), (b 0), (b 0), (b 0), (b 0), (b 0), (b 0), (b 0), (b 0), (i 0), (i 0), (b 0), (b 0), (b 0), (b 0), (b 0), (b 0), (b 0), (b 0), (b 0), (b 0), (b 0), (b 0), (b 0), (b 0), (b 0), (b 0), (i 0), (b 0), (b 0), (b 0), (b 0), (b 0), (b 0), (b 0), (b 0), (b 0), (b 0), (b 0), (b 0), (b 0), (b 0), (b 0), (b 0), (i 0), (b 0), (b 0), (b 0), (b 0), (b 0), (b 0), (b 0), (b 0), (b 0), (b 0), (b 0), (b 0), (b 0), (b 0), (b 0), (b 0), (.str [])]), m 5 (.mov (.c (i 0)))]) <|
  .seq (.region [m 10 (.mov (t 0)), m 11 (.mov (t 1)), m 12 (.call false 36 [(t 10), (t 11)]), m 9 (.mov (t 12)), m 13 (.extract 0 (t 9)), m 14 (.extract 1 (t 9)), m 15 (.extract 2 (t 9)), m 6 (.alloc 1 [(i 0), (b 0), (b 0), (b 0), (b 0), (b 0), (b 0), (b 0), (b 0), (i 0), (i 0), (b 0), (b 0), (b 0), (b 0), (b 0), (b 0), (b 0), (b 0), (b 0), (b 0), (b 0), (b 0), (b 0), (b 0), (b 0), (b 0), (i 0), (b 0), (b 0), (b 0), (b 0), (b 0), (b 0), (b 0), (b 0), (b 0), (b 0), (b 0), (b 0), (b 0), (b 0), (b 0), (b 0), (i 0), (b 0), (b 0), (b 0), (b 0), (b 0), (b 0), (b 0), (b 0), (b 0), (b 0), (b 0), (b 0), (b 0), (b 0), (b 0), (b 0), (.str [])]), e (.store 62 (t 6) (t 13)), m 7 (.mov (t 14)), m 8 (.mov (t 15))]) <|
  .seq (.block 0 <| .seq (.region [m 17 (.mov (t 8)), m 18 (.bin .neq .num (t 17) (.c (i 0))), m 16 (.mov (t 18))]) <|
  .cond (t 16) (.seq (.region [m 19 (.build [(i 0), (b 0), (b 0), (b 0), (b 0), (b 0), (b 0), (b 0), (b 0), (i 0), (i 0), (b 0), (b 0), (b 0), (b 0), (b 0), (b 0), (b 0), (b 0), (b 0), (b 0), (b 0), (b 0), (b 0), (b 0), (b 0), (b 0), (i 0), (b 0), (b 0), (b 0), (b 0), (b 0), (b 0), (b 0), (b 0), (b 0), (b 0), (b 0), (b 0), (b 0), (b 0), (b 0), (b 0), (i 0), (b 0), (b 0), (b 0), (b 0), (b 0), (b 0), (b 0), (b 0), (b 0), (b 0), (b 0), (b 0), (b 0), (b 0), (b 0), (b 0), (.str [])] []), m 20 (.mov (t 8)), e (.store 62 (t 4) (t 19)), m 5 (.mov (t 20))]) <|
  .ret) (.seq (.region [m 22 (.mov (t 7)), m 23 (.mov (t 0)), m 24 (.len (t 23)), m 25 (.bin .neq .num (t 22) (t 24)), m 21 (.mov (t 25))]) <|
  .cond (t 21) (.seq (.region [m 26 (.build [(i 0), (b 0), (b 0), (b 0), (b 0), (b 0), (b 0), (b 0), (b 0), (i 0), (i 0), (b 0), (b 0), (b 0), (b 0), (b 0), (b 0), (b 0), (b 0), (b 0), (b 0), (b 0), (b 0), (b 0), (b 0), (b 0), (b 0), (i 0), (b 0), (b 0), (b 0), (b 0), (b 0), (b 0), (b 0), (b 0), (b 0), (b 0), (b 0), (b 0), (b 0), (b 0), (b 0), (b 0), (i 0), (b 0), (b 0), (b 0), (b 0), (b 0), (b 0), (b 0), (b 0), (b 0), (b 0), (b 0), (b 0), (b 0), (b 0), (b 0), (b 0), (.str [])] []), e (.store 62 (t 4) (t 26)), m 5 (.mov (.c (i 4)))]) <|
  .ret) (.skip))) <|
  .seq (.region [m 27 (.load (some 62) (t 6)), e (.store 62 (t 4) (t 27)), m 5 (.mov (.c (i 0)))]) <|
  .ret
def vf35 : VFun := ⟨28, 2, vb35, [.cell 4 (some 62), .tmp 5], false⟩
theorem cf35 : cFun Go.Proofs.Tryd.prog rawF false Go.Proofs.Tryd.f35 = some vf35 := by kernel_rfl
theorem T35 {args : List PV} {σ : VHeap} {Post : KP} (h : belH σ.length σ → (∀ c, c ∈ args → bel σ.length c) → vrun Go.Proofs.Tryd.prog σ.length vb35 (argsEnv args) (σ ++ [dd, dd]) (vend vf35 (TrimP σ.length Post))) (hl : args.length ≤ 28 := by exact Nat.le_of_ble_eq_true rfl) : T Go.Proofs.Tryd.prog 35 args σ Post := T.walk Go.Proofs.Tryd.func35 cf35 hl rfl h

/-- vinery/mroute.Leaf -/
@[reducible] def vb30 : VC :=
  .seq (.region [m 2 (.box 0 (t 0)), m 3 (.box 1 (t 1)), m 4 (.alloc 2 [(i 0), (b 0), (b 0), (b 0), (b 0), (b 0), (b 0), (b 0), (b 0), (i 0), (i 0), (b 0), (b 0), (b 0), (b 0), (b 0), (b 0), (b 0), (b 0), (b 0), (b 0), (b 0), (b 0), (b 0), (b 0), (b 0), (b 0), (i 0), (b 0), (b 0), (b 0), (b 0), (b 0), (b 0), (b 0), (b 0), (b 0), (b 0), (b 0), (b 0), (b 0), (b 0), (b 0), (b 0), (i 0), (b 0), (b 0), (b 0), (b 0), (b 0), (b 0), (b 0), (b 0), (b 0), (b 0), (b 0), (b 0), (b 0), (b 0), (b 0), (b 0), (.str [])]), m 5 (.mov (.c (i 0)))]) <|
  .seq (.region [m 10 (.load (some 62) (t 2)), m 11 (.call false 31 [(t 10)]), m 9 (.mov (t 11)), m 12 (.extract 0 (t 9)), m 13 (.extract 1 (t 9)), m 6 (.mov (t 12)), m 7 (.mov (t 13))]) <|
  .seq (.region [m 14 (.mov (t 6)), m 15 (.b2s (t 14)), m 16 (.load (some 17) (t 3)), m 17 (.build [(i 0), (b 0), (b 0), (b 0), (b 0), (b 0), (b 0), (b 0), (b 0), (i 0), (i 0), (b 0), (b 0), (b 0), (b 0), (b 0), (b 0), (b 0), (b 0), (b 0), (b 0), (b 0), (b 0), (b 0), (b 0), (b 0), (b 0), (i 0), (b 0), (b 0), (b 0), (b 0), (b 0), (b 0), (b 0), (b 0), (b 0), (b 0), (b 0), (b 0), (b 0), (b 0), (b 0), (b 0), (i 0), (b 0), (b 0), (b 0), (b 0), (b 0), (b 0), (b 0), (b 0), (b 0), (b 0), (b 0), (b 0), (b 0), (b 0), (b 0), (b 0), (.str [])] [(0, 1, (.c (i 4))), (61, 1, (t 15)), (44, 17, (t 16))]), m 8 (.alloc 3 [(i 0), (b 0), (b 0), (b 0), (b 0), (b 0), (b 0), (b 0), (b 0), (i 0), (i 0), (b 0), (b 0), (b 0), (b 0), (b 0), (b 0), (b 0), (b 0), (b 0), (b 0), (b 0), (b 0), (b 0), (b 0), (b 0), (b 0), (i 0), (b 0), (b 0), (b 0), (b 0), (b 0), (b 0), (b 0), (b 0), (b 0), (b 0), (b 0), (b 0), (b 0), (b 0), (b 0), (b 0), (i 0), (b 0), (b 0), (b 0), (b 0), (b 0), (b 0), (b 0), (b 0), (b 0), (b 0), (b 0), (b 0), (b 0), (b 0), (b 0), (b 0), (.str [])]), e (.store 62 (t 8) (t 17))]) <|
  .seq (.seq (.region [m 18 (.mov (t 7)), m 19 (.bin .neq .num (t 18) (.c (i 0))), m 20 (.mov (t 19)), g 21 20 false (.load (some 62) (t 8)), g 22 20 false (.call false 32 [(t 21)]), g 23 20 false (.un .not (t 22)), m 24 (.pick (t 20) (.c (.bool true)) (t 23))]) <|
  .cond (t 24) (.seq (.region [m 25 (.build [(i 0), (b 0), (b 0), (b 0), (b 0), (b 0), (b 0), (b 0), (b 0), (i 0), (i 0), (b 0), (b 0), (b 0), (b 0), (b 0), (b 0), (b 0), (b 0), (b 0), (b 0), (b 0), (b 0), (b 0), (b 0), (b 0), (b 0), (i 0), (b 0), (b 0), (b 0), (b 0), (b 0), (b 0), (b 0), (b 0), (b 0), (b 0), (b 0), (b 0), (b 0), (b 0), (b 0), (b 0), (i 0), (b 0), (b 0), (b 0), (b 0), (b 0), (b 0), (b 0), (b 0), (b 0), (b 0), (b 0), (b 0), (b 0), (b 0), (b 0), (b 0), (.str [])] []), e (.store 62 (t 4) (t 25)), m 5 (.mov (.c (i 1)))]) <|
  .ret) (.skip)) <|
  .seq (.region [m 26 (.load (some 62) (t 8)), e (.store 62 (t 4) (t 26)), m 5 (.mov (.c (i 0)))]) <|
  .ret
def vf30 : VFun := ⟨27, 4, vb30, [.cell 4 (some 62), .tmp 5], false⟩
theorem cf30 : cFun Go.Proofs.Tryd.prog rawF false Go.Proofs.Tryd.f30 = some vf30 := by kernel_rfl
theorem T30 {args : List PV} {σ : VHeap} {Post : KP} (h : belH σ.length σ → (∀ c, c ∈ args → bel σ.length c) → vrun Go.Proofs.Tryd.prog σ.length vb30 (argsEnv args) (σ ++ [dd, dd, dd, dd]) (vend vf30 (TrimP σ.length Post))) (hl : args.length ≤ 27 := by exact Nat.le_of_ble_eq_true rfl) : T Go.Proofs.Tryd.prog 30 args σ Post := T.walk Go.Proofs.Tryd.func30 cf30 hl rfl h

/-- vinery/mroute.ReadRow -/
@[reducible] def vb37 : VC :=
  .seq (.region [m 4 (.newRow 0 62), m 5 (.mov (.c (i 0)))]) <|
  .seq (.seq (.region [m 10 (.mov (t 1)), m 11 (.bin .neq .num (t 10) (.c (i 4))), m 12 (.mov (t 11)), g 13 12 true (.mov (t 1)), g 14 12 true (.bin .neq .num (t 13) (.c (i 16))), m 15 (.pick (t 12) (t 14) (.c (.bool false)))]) <|
  .cond (t 15) (.seq (.region [m 4 (.newRow 0 62), m 5 (.mov (.c (i 1)))]) <|
  .ret) (.skip)) <|
  .seq (.region [m 6 (.newRow 1 62)]) <|
  .seq (.block 0 <| .loop <| .seq (.seq (.region [m 16 (.mov (t 0)), m 17 (.len (t 16)), m 18 (.bin .gtr .num (t 17) (.c (i 0)))]) <|
  .cond (t 18) (.skip) (.exit 0)) <|
  .block 1 <| .seq (.region [m 20 (.mov (t 0)), m 21 (.mov (t 1)), m 22 (.call false 36 [(t 20), (t 21)]), m 19 (.mov (t 22)), m 23 (.extract 0 (t 19)), m 24 (.extract 1 (t 19)), m 25 (.extract 2 (t 19)), m 7 (.alloc 2 [(i 0), (b 0), (b 0), (b 0), (b 0), (b 0), (b 0), (b 0), (b 0), (i 0), (i 0), (b 0), (b 0), (b 0), (b 0), (b 0), (b 0), (b 0), (b 0), (b 0), (b 0), (b 0), (b 0), (b 0), (b 0), (b 0), (b 0), (i 0), (b 0), (b 0), (b 0), (b 0), (b 0), (b 0), (b 0), (b 0), (b 0), (b 0), (b 0), (b 0), (b 0), (b 0), (b 0), (b 0), (i 0), (b 0), (b 0), (b 0), (b 0), (b 0), (b 0), (b 0), (b 0), (b 0), (b 0), (b 0), (b 0), (b 0), (b 0), (b 0), (b 0), (.str [])]), e (.store 62 (t 7) (t 23)), m 8 (.mov (t 24)), m 9 (.mov (t 25))]) <|
  .seq (.seq (.region [m 26 (.mov (t 9)), m 27 (.bin .neq .num (t 26) (.c (i 0)))]) <|
  .cond (t 27) (.seq (.region [m 28 (.mov (t 9)), m 4 (.newRow 0 62), m 5 (.mov (t 28))]) <|
  .ret) (.skip)) <|
  .dreg [(m 29 (.mov (t 6)), []), (m 30 (.load (some 62) (t 7)), []), (m 31 (.buildSlice 3 62 1 [(i 0), (b 0), (b 0), (b 0), (b 0), (b 0), (b 0), (b 0), (b 0), (i 0), (i 0), (b 0), (b 0), (b 0), (b 0), (b 0), (b 0), (b 0), (b 0), (b 0), (b 0), (b 0), (b 0), (b 0), (b 0), (b 0), (b 0), (i 0), (b 0), (b 0), (b 0), (b 0), (b 0), (b 0), (b 0), (b 0), (b 0), (b 0), (b 0), (b 0), (b 0), (b 0), (b 0), (b 0), (i 0), (b 0), (b 0), (b 0), (b 0), (b 0), (b 0), (b 0), (b 0), (b 0), (b 0), (b 0), (b 0), (b 0), (b 0), (b 0), (b 0), (.str [])] [(0, (t 30))]), [1]), (m 32 (.append 4 62 112 (t 29) (t 31)), [0, 2]), (m 33 (.mov (t 0)), []), (m 34 (.mov (t 8)), []), (m 35 (.slice 1 (t 33) (some (t 34)) none), [4, 5]), (m 6 (.mov (t 32)), [3, 3, 0, 1, 2, 3]), (m 0 (.mov (t 35)), [6, 7, 0, 1, 2, 3, 4, 5, 6, 7])] [(2, 0), (1, 1), (2, 4), (2, 5), (2, 6), (0, 2), (0, 3), (2, 7), (2, 8)] [0, 0, 2, 7, 0, 0, 48, 15, 255]) <|
  .seq (.region [m 36 (.mov (t 6)), m 4 (.mov (t 36)), m 5 (.mov (.c (i 0)))]) <|
  .ret
def vf37 : VFun := ⟨37, 5, vb37, [.tmp 4, .tmp 5], false⟩
theorem cf37 : cFun Go.Proofs.Tryd.prog rawF false Go.Proofs.Tryd.f37 = some vf37 := by kernel_rfl
theorem T37 {args : List PV} {σ : VHeap} {Post : KP} (h : belH σ.length σ → (∀ c, c ∈ args → bel σ.length c) → vrun Go.Proofs.Tryd.prog σ.length vb37 (argsEnv args) (σ ++ [dd, dd, dd, dd, dd]) (vend vf37 (TrimP σ.length Post))) (hl : args.length ≤ 37 := by exact Nat.le_of_ble_eq_true rfl) : T Go.Proofs.Tryd.prog 37 args σ Post := T.walk Go.Proofs.Tryd.func37 cf37 hl rfl h

/-- vinery/mroute.Row -/
@[reducible] def vb38 : VC :=
  .seq (.region [m 2 (.newRow 0 1), m 3 (.mov (.c (i 0)))]) <|
  .seq (.region [m 4 (.newRow 1 1)]) <|
  .seq (.seq (.region [m 9 (.mov (t 0)), m 10 (.len (t 9)), m 11 (.mov (.c (i 0)))]) <|
  .block 0 <| .loop <| .seq (.region [m 12 (.bin .lss .num (t 11) (t 10))]) <|
  .seq (.cond (t 12) (.skip) (.exit 0)) <|
  .seq (.block 1 <| .seq (.region [m 13 (.index 62 (t 9) (t 11)), m 14 (.load (some 62) (t 13)), m 6 (.alloc 2 [(i 0), (b 0), (b 0), (b 0), (b 0), (b 0), (b 0), (b 0), (b 0), (i 0), (i 0), (b 0), (b 0), (b 0), (b 0), (b 0), (b 0), (b 0), (b 0), (b 0), (b 0), (b 0), (b 0), (b 0), (b 0), (b 0), (b 0), (i 0), (b 0), (b 0), (b 0), (b 0), (b 0), (b 0), (b 0), (b 0), (b 0), (b 0), (b 0), (b 0), (b 0), (b 0), (b 0), (b 0), (i 0), (b 0), (b 0), (b 0), (b 0), (b 0), (b 0), (b 0), (b 0), (b 0), (b 0), (b 0), (b 0), (b 0), (b 0), (b 0), (b 0), (.str [])]), e (.store 62 (t 6) (t 14))]) <|
  .seq (.region [m 16 (.load (some 62) (t 6)), m 17 (.call false 31 [(t 16)]), m 15 (.mov (t 17)), m 18 (.extract 0 (t 15)), m 19 (.extract 1 (t 15)), m 7 (.mov (t 18)), m 8 (.mov (t 19))]) <|
  .seq (.seq (.region [m 20 (.mov (t 8)), m 21 (.bin .neq .num (t 20) (.c (i 0)))]) <|
  .cond (t 21) (.seq (.region [m 22 (.mov (t 8)), m 2 (.newRow 0 1), m 3 (.mov (t 22))]) <|
  .ret) (.skip)) <|
  .region [m 23 (.mov (t 4)), m 24 (.mov (t 7)), m 25 (.append 3 1 1 (t 23) (t 24)), m 4 (.mov (t 25))]) <|
  .region [m 26 (.bin .add .num (t 11) (.c (i 1))), m 11 (.mov (t 26))]) <|
  .seq (.region [m 27 (.mov (t 4)), m 2 (.mov (t 27)), m 3 (.mov (.c (i 0)))]) <|
  .ret
def vf38 : VFun := ⟨28, 4, vb38, [.tmp 2, .tmp 3], false⟩
theorem cf38 : cFun Go.Proofs.Tryd.prog rawF false Go.Proofs.Tryd.f38 = some vf38 := by kernel_rfl
theorem T38 {args : List PV} {σ : VHeap} {Post : KP} (h : belH σ.length σ → (∀ c, c ∈ args → bel σ.length c) → vrun Go.Proofs.Tryd.prog σ.length vb38 (argsEnv args) (σ ++ [dd, dd, dd, dd]) (vend vf38 (TrimP σ.length Post))) (hl : args.length ≤ 28 := by exact Nat.le_of_ble_eq_true rfl) : T Go.Proofs.Tryd.prog 38 args σ Post := T.walk Go.Proofs.Tryd.func38 cf38 hl rfl h

/-- vinery/mroute.Compare -/
@[reducible] def vb33 : VC :=
  .seq (.region [m 2 (.box 0 (t 0)), m 3 (.box 1 (t 1)), m 4 (.mov (.c (i 0)))]) <|
  .seq (.region [m 10 (.load (some 62) (t 2)), m 11 (.call false 31 [(t 10)]), m 9 (.mov (t 11)), m 12 (.extract 0 (t 9)), m 13 (.extract 1 (t 9)), m 5 (.mov (t 12)), m 6 (.mov (t 13))]) <|
  .seq (.region [m 15 (.load (some 62) (t 3)), m 16 (.call false 31 [(t 15)]), m 14 (.mov (t 16)), m 17 (.extract 0 (t 14)), m 18 (.extract 1 (t 14)), m 7 (.mov (t 17)), m 8 (.mov (t 18))]) <|
  .seq (.region [m 19 (.mov (t 5)), m 20 (.mov (t 7)), m 21 (.call false 68 [(t 19), (t 20)]), m 4 (.mov (t 21))]) <|
  .ret
def vf33 : VFun := ⟨22, 2, vb33, [.tmp 4], false⟩
theorem cf33 : cFun Go.Proofs.Tryd.prog rawF false Go.Proofs.Tryd.f33 = some vf33 := by kernel_rfl
theorem T33 {args : List PV} {σ : VHeap} {Post : KP} (h : belH σ.length σ → (∀ c, c ∈ args → bel σ.length c) → vrun Go.Proofs.Tryd.prog σ.length vb33 (argsEnv args) (σ ++ [dd, dd]) (vend vf33 (TrimP σ.length Post))) (hl : args.length ≤ 22 := by exact Nat.le_of_ble_eq_true rfl) : T Go.Proofs.Tryd.prog 33 args σ Post := T.walk Go.Proofs.Tryd.func33 cf33 hl rfl h

/-- vinery/mroute.name -/
@[reducible] def vb71 : VC :=
  .seq (.region [m 1 (.box 0 (t 0)), m 2 (.mov (.c (.str [])))]) <|
  .seq (.seq (.region [m 3 (.field 0 (t 1)), m 4 (.load none (t 3)), m 5 (.bin .eql .num (t 4) (.c (i 0)))]) <|
  .cond (t 5) (.seq (.region [m 2 (.mov (.c (.str [42])))]) <|
  .ret) (.skip)) <|
  .seq (.region [m 6 (.load (some 17) (t 1)), m 7 (.call false 72 [(t 6)]), m 2 (.mov (t 7))]) <|
  .ret
def vf71 : VFun := ⟨8, 1, vb71, [.tmp 2], false⟩
theorem cf71 : cFun Go.Proofs.Tryd.prog rawF false Go.Proofs.Tryd.f71 = some vf71 := by kernel_rfl
theorem T71 {args : List PV} {σ : VHeap} {Post : KP} (h : belH σ.length σ → (∀ c, c ∈ args → bel σ.length c) → vrun Go.Proofs.Tryd.prog σ.length vb71 (argsEnv args) (σ ++ [dd]) (vend vf71 (TrimP σ.length Post))) (hl : args.length ≤ 8 := by exact Nat.le_of_ble_eq_true rfl) : T Go.Proofs.Tryd.prog 71 args σ Post := T.walk Go.Proofs.Tryd.func71 cf71 hl rfl h

/-- vinery/mroute.Text -/
@[reducible] def vb34 : VC :=
  .seq (.region [m 1 (.box 0 (t 0)), m 2 (.mov (.c (.str [])))]) <|
  .seq (.seq (.region [m 8 (.load (some 62) (t 1)), m 9 (.call false 32 [(t 8)]), m 10 (.un .not (t 9))]) <|
  .cond (t 10) (.seq (.region [m 2 (.mov (.c (.str [])))]) <|
  .ret) (.skip)) <|
  .seq (.region [m 12 (.field 0 (t 1)), m 13 (.load none (t 12)), m 14 (.call false 60 [(t 13)]), m 11 (.mov (t 14)), m 15 (.extract 0 (t 11)), m 16 (.extract 1 (t 11)), m 3 (.alloc 1 [(.bool false), (.bool false), (.bool false), (.bool false)]), e (.store 4 (t 3) (t 15)), m 4 (.mov (t 16))]) <|
  .seq (.region [m 17 (.field 0 (t 1)), m 18 (.load none (t 17)), m 19 (.call false 69 [(t 18)]), m 20 (.buildSlice 2 1 1 [(.str [])] [(0, (t 19))]), m 5 (.mov (t 20))]) <|
  .seq (.seq (.region [m 21 (.field 0 (t 1)), m 22 (.load none (t 21)), m 23 (.bin .eql .num (t 22) (.c (i 4)))]) <|
  .cond (t 23) (.seq (.region [m 25 (.field 61 (t 1)), m 26 (.load none (t 25)), m 27 (.call false 67 [(t 26)]), m 24 (.mov (t 27)), m 28 (.extract 0 (t 24)), m 29 (.extract 1 (t 24)), m 6 (.alloc 3 [(i 0), (b 0), (b 0), (b 0), (b 0), (b 0), (b 0), (b 0), (b 0), (i 0), (i 0), (b 0), (b 0), (b 0), (b 0), (b 0), (b 0), (b 0), (b 0), (b 0), (b 0), (b 0), (b 0), (b 0), (b 0), (b 0), (b 0), (i 0), (b 0), (b 0), (b 0), (b 0), (b 0), (b 0), (b 0), (b 0), (b 0), (b 0), (b 0), (b 0), (b 0), (b 0), (b 0), (b 0), (i 0), (b 0), (b 0), (b 0), (b 0), (b 0), (b 0), (b 0), (b 0), (b 0), (b 0), (b 0), (b 0), (b 0), (b 0), (b 0), (b 0), (.str [])]), e (.store 62 (t 6) (t 28)), m 7 (.mov (t 29))]) <|
  .region [m 30 (.mov (t 5)), m 31 (.load (some 62) (t 6)), m 32 (.call false 34 [(t 31)]), m 33 (.bin .add .num (.c (.str [91])) (t 32)), m 34 (.bin .add .num (t 33) (.c (.str [93]))), m 35 (.buildSlice 4 1 1 [(.str [])] [(0, (t 34))]), m 36 (.append 5 1 16 (t 30) (t 35)), m 5 (.mov (t 36))]) (.skip)) <|
  .seq (.seq (.region [m 37 (.field 0 (t 3)), m 38 (.load none (t 37))]) <|
  .cond (t 38) (.region [m 39 (.mov (t 5)), m 40 (.field 1 (t 1)), m 41 (.load (some 8) (t 40)), m 42 (.call false 70 [(t 41)]), m 43 (.buildSlice 6 1 1 [(.str [])] [(0, (t 42))]), m 44 (.append 7 1 16 (t 39) (t 43)), m 5 (.mov (t 44))]) (.skip)) <|
  .seq (.seq (.region [m 45 (.field 1 (t 3)), m 46 (.load none (t 45))]) <|
  .cond (t 46) (.region [m 47 (.mov (t 5)), m 48 (.field 9 (t 1)), m 49 (.load none (t 48)), m 50 (.call false 69 [(t 49)]), m 51 (.buildSlice 8 1 1 [(.str [])] [(0, (t 50))]), m 52 (.append 9 1 16 (t 47) (t 51)), m 5 (.mov (t 52))]) (.skip)) <|
  .seq (.seq (.region [m 53 (.field 2 (t 3)), m 54 (.load none (t 53))]) <|
  .cond (t 54) (.dreg [(m 55 (.mov (t 5)), []), (m 56 (.field 10 (t 1)), []), (m 57 (.load (some 17) (t 56)), [1]), (m 58 (.call false 71 [(t 57)]), [2]), (m 59 (.field 27 (t 1)), []), (m 60 (.load (some 17) (t 59)), [4]), (m 61 (.call false 71 [(t 60)]), [5, 3]), (m 62 (.buildSlice 10 1 2 [(.str [])] [(0, (t 58)), (1, (t 61))]), [3, 6]), (m 63 (.append 11 1 16 (t 55) (t 62)), [0, 7, 6]), (m 5 (.mov (t 63)), [8, 8, 0, 1, 2, 3, 4, 5, 6, 7, 8])] [(2, 0), (1, 1), (1, 2), (1, 3), (1, 4), (1, 5), (1, 6), (0, 7), (0, 8), (2, 9)] [0, 0, 2, 6, 0, 16, 62, 126, 255, 511]) (.skip)) <|
  .seq (.seq (.region [m 64 (.field 3 (t 3)), m 65 (.load none (t 64))]) <|
  .cond (t 65) (.region [m 66 (.mov (t 5)), m 67 (.field 44 (t 1)), m 68 (.load (some 17) (t 67)), m 69 (.call false 72 [(t 68)]), m 70 (.buildSlice 12 1 1 [(.str [])] [(0, (t 69))]), m 71 (.append 13 1 16 (t 66) (t 70)), m 5 (.mov (t 71))]) (.skip)) <|
  .seq (.region [m 72 (.mov (t 5)), m 73 (.call false 73 [(t 72), (.c (.str [32]))]), m 2 (.mov (t 73))]) <|
  .ret
def vf34 : VFun := ⟨74, 14, vb34, [.tmp 2], false⟩
theorem cf34 : cFun Go.Proofs.Tryd.prog rawF false Go.Proofs.Tryd.f34 = some vf34 := by kernel_rfl
theorem T34 {args : List PV} {σ : VHeap} {Post : KP} (h : belH σ.length σ → (∀ c, c ∈ args → bel σ.length c) → vrun Go.Proofs.Tryd.prog σ.length vb34 (argsEnv args) (σ ++ [dd, dd, dd, dd, dd, dd, dd, dd, dd, dd, dd, dd, dd, dd]) (vend vf34 (TrimP σ.length Post))) (hl : args.length ≤ 74 := by exact Nat.le_of_ble_eq_true rfl) : T Go.Proofs.Tryd.prog 34 args σ Post := T.walk Go.Proofs.Tryd.func34 cf34 hl rfl h

/-- vinery/vinerylaw07.small -/
@[reducible] def vb28 : VC :=
  .seq (.region [m 0 (.mov (.c (.bool false)))]) <|
  .seq (.region [m 10 (.build [(b 0), (b 0), (b 0), (b 0), (b 0), (b 0), (b 0), (b 0)] [(0, 1, (.c (b 0))), (1, 1, (.c (b 0))), (2, 1, (.c (b 0))), (3, 1, (.c (b 1))), (4, 1, (.c (b 0))), (5, 1, (.c (b 0))), (6, 1, (.c (b 0))), (7, 1, (.c (b 1)))]), m 11 (.call false 39 [(.c (b 224)), (.c (b 0)), (.c (b 0)), (.c (b 1))]), m 12 (.call false 39 [(.c (b 10)), (.c (b 0)), (.c (b 0)), (.c (b 1))]), m 13 (.build [(i 0), (b 0), (b 0), (b 0), (b 0), (b 0), (b 0), (b 0), (b 0), (i 0), (i 0), (b 0), (b 0), (b 0), (b 0), (b 0), (b 0), (b 0), (b 0), (b 0), (b 0), (b 0), (b 0), (b 0), (b 0), (b 0), (b 0), (i 0), (b 0), (b 0), (b 0), (b 0), (b 0), (b 0), (b 0), (b 0), (b 0), (b 0), (b 0), (b 0), (b 0), (b 0), (b 0), (b 0), (i 0), (b 0), (b 0), (b 0), (b 0), (b 0), (b 0), (b 0), (b 0), (b 0), (b 0), (b 0), (b 0), (b 0), (b 0), (b 0), (b 0), (.str [])] [(0, 1, (.c (i 3))), (1, 8, (t 10)), (27, 17, (t 11)), (44, 17, (t 12))]), m 1 (.alloc 0 [(i 0), (b 0), (b 0), (b 0), (b 0), (b 0), (b 0), (b 0), (b 0), (i 0), (i 0), (b 0), (b 0), (b 0), (b 0), (b 0), (b 0), (b 0), (b 0), (b 0), (b 0), (b 0), (b 0), (b 0), (b 0), (b 0), (b 0), (i 0), (b 0), (b 0), (b 0), (b 0), (b 0), (b 0), (b 0), (b 0), (b 0), (b 0), (b 0), (b 0), (b 0), (b 0), (b 0), (b 0), (i 0), (b 0), (b 0), (b 0), (b 0), (b 0), (b 0), (b 0), (b 0), (b 0), (b 0), (b 0), (b 0), (b 0), (b 0), (b 0), (b 0), (.str [])]), e (.store 62 (t 1) (t 13))]) <|
  .seq (.region [m 15 (.load (some 62) (t 1)), m 16 (.call false 31 [(t 15)]), m 14 (.mov (t 16)), m 17 (.extract 0 (t 14)), m 18 (.extract 1 (t 14)), m 2 (.mov (t 17)), m 3 (.mov (t 18))]) <|
  .seq (.region [m 20 (.mov (t 2)), m 21 (.call false 35 [(t 20), (.c (i 4))]), m 19 (.mov (t 21)), m 22 (.extract 0 (t 19)), m 23 (.extract 1 (t 19)), m 4 (.alloc 1 [(i 0), (b 0), (b 0), (b 0), (b 0), (b 0), (b 0), (b 0), (b 0), (i 0), (i 0), (b 0), (b 0), (b 0), (b 0), (b 0), (b 0), (b 0), (b 0), (b 0), (b 0), (b 0), (b 0), (b 0), (b 0), (b 0), (b 0), (i 0), (b 0), (b 0), (b 0), (b 0), (b 0), (b 0), (b 0), (b 0), (b 0), (b 0), (b 0), (b 0), (b 0), (b 0), (b 0), (b 0), (i 0), (b 0), (b 0), (b 0), (b 0), (b 0), (b 0), (b 0), (b 0), (b 0), (b 0), (b 0), (b 0), (b 0), (b 0), (b 0), (b 0), (.str [])]), e (.store 62 (t 4) (t 22)), m 5 (.mov (t 23))]) <|
  .seq (.dreg [(m 25 (.load (some 62) (t 1)), []), (m 26 (.call false 39 [(.c (b 10)), (.c (b 0)), (.c (b 0)), (.c (b 2))]), []), (m 27 (.call false 30 [(t 25), (t 26)]), [0, 1, 1]), (m 24 (.mov (t 27)), [2]), (m 28 (.extract 0 (t 24)), [3]), (m 29 (.extract 1 (t 24)), [3]), (m 6 (.alloc 2 [(i 0), (b 0), (b 0), (b 0), (b 0), (b 0), (b 0), (b 0), (b 0), (i 0), (i 0), (b 0), (b 0), (b 0), (b 0), (b 0), (b 0), (b 0), (b 0), (b 0), (b 0), (b 0), (b 0), (b 0), (b 0), (b 0), (b 0), (i 0), (b 0), (b 0), (b 0), (b 0), (b 0), (b 0), (b 0), (b 0), (b 0), (b 0), (b 0), (b 0), (b 0), (b 0), (b 0), (b 0), (i 0), (b 0), (b 0), (b 0), (b 0), (b 0), (b 0), (b 0), (b 0), (b 0), (b 0), (b 0), (b 0), (b 0), (b 0), (b 0), (b 0), (.str [])]), []), (e (.store 62 (t 6) (t 28)), [6, 4, 2, 0, 1, 2, 3, 4, 6]), (m 7 (.mov (t 29)), [5, 7, 0, 1, 2, 3, 4, 5, 6, 7])] [(2, 0), (2, 1), (2, 2), (2, 3), (2, 4), (2, 5), (0, 6), (0, 7), (2, 8)] [0, 0, 3, 7, 15, 15, 0, 95, 255]) <|
  .seq (.region [m 31 (.load (some 62) (t 6)), m 32 (.call false 31 [(t 31)]), m 30 (.mov (t 32)), m 33 (.extract 0 (t 30)), m 34 (.extract 1 (t 30)), m 8 (.mov (t 33)), m 9 (.mov (t 34))]) <|
  .seq (.region [m 35 (.mov (t 3)), m 36 (.bin .eql .num (t 35) (.c (i 0))), m 37 (.mov (t 36)), g 38 37 true (.mov (t 2)), g 39 37 true (.len (t 38)), g 40 37 true (.bin .eql .num (t 39) (.c (i 20))), m 41 (.pick (t 37) (t 40) (.c (.bool false))), m 42 (.mov (t 41)), g 43 42 true (.mov (t 5)), g 44 42 true (.bin .eql .num (t 43) (.c (i 0))), m 45 (.pick (t 42) (t 44) (.c (.bool false))), m 46 (.mov (t 45)), g 47 46 true (.load (some 62) (t 4)), g 48 46 true (.load (some 62) (t 1)), g 49 46 true (.eqAgg [(.i .i64), (.i .u8), (.i .u8), (.i .u8), (.i .u8), (.i .u8), (.i .u8), (.i .u8), (.i .u8), (.i .i64), (.i .i64), (.i .u8), (.i .u8), (.i .u8), (.i .u8), (.i .u8), (.i .u8), (.i .u8), (.i .u8), (.i .u8), (.i .u8), (.i .u8), (.i .u8), (.i .u8), (.i .u8), (.i .u8), (.i .u8), (.i .i64), (.i .u8), (.i .u8), (.i .u8), (.i .u8), (.i .u8), (.i .u8), (.i .u8), (.i .u8), (.i .u8), (.i .u8), (.i .u8), (.i .u8), (.i .u8), (.i .u8), (.i .u8), (.i .u8), (.i .i64), (.i .u8), (.i .u8), (.i .u8), (.i .u8), (.i .u8), (.i .u8), (.i .u8), (.i .u8), (.i .u8), (.i .u8), (.i .u8), (.i .u8), (.i .u8), (.i .u8), (.i .u8), (.i .u8), .s] false (t 47) (t 48)), m 50 (.pick (t 46) (t 49) (.c (.bool false))), m 51 (.mov (t 50)), g 52 51 true (.load (some 62) (t 1)), g 53 51 true (.call false 34 [(t 52)]), g 54 51 true (.bin .eql .num (t 53) (.c (.str [51, 32, 48, 58, 49, 58, 49, 32, 42, 32, 50, 50, 52, 46, 48, 46, 48, 46, 49, 32, 49, 48, 46, 48, 46, 48, 46, 49]))), m 55 (.pick (t 51) (t 54) (.c (.bool false))), m 56 (.mov (t 55)), g 57 56 true (.mov (t 7)), g 58 56 true (.bin .eql .num (t 57) (.c (i 0))), m 59 (.pick (t 56) (t 58) (.c (.bool false))), m 60 (.mov (t 59)), g 61 60 true (.mov (t 9)), g 62 60 true (.bin .eql .num (t 61) (.c (i 0))), m 63 (.pick (t 60) (t 62) (.c (.bool false))), m 64 (.mov (t 63)), g 65 64 true (.mov (t 8)), g 66 64 true (.len (t 65)), g 67 64 true (.bin .eql .num (t 66) (.c (i 26))), m 68 (.pick (t 64) (t 67) (.c (.bool false))), m 69 (.mov (t 68)), g 70 69 true (.load (some 62) (t 6)), g 71 69 true (.call false 34 [(t 70)]), g 72 69 true (.bin .eql .num (t 71) (.c (.str [52, 32, 91, 51, 32, 48, 58, 49, 58, 49, 32, 42, 32, 50, 50, 52, 46, 48, 46, 48, 46, 49, 32, 49, 48, 46, 48, 46, 48, 46, 49, 93, 32, 49, 48, 46, 48, 46, 48, 46, 50]))), m 73 (.pick (t 69) (t 72) (.c (.bool false))), m 0 (.mov (t 73))]) <|
  .ret
def vf28 : VFun := ⟨74, 3, vb28, [.tmp 0], false⟩
theorem cf28 : cFun Go.Proofs.Tryd.prog rawF false Go.Proofs.Tryd.f28 = some vf28 := by kernel_rfl
theorem T28 {args : List PV} {σ : VHeap} {Post : KP} (h : belH σ.length σ → (∀ c, c ∈ args → bel σ.length c) → vrun Go.Proofs.Tryd.prog σ.length vb28 (argsEnv args) (σ ++ [dd, dd, dd]) (vend vf28 (TrimP σ.length Post))) (hl : args.length ≤ 74 := by exact Nat.le_of_ble_eq_true rfl) : T Go.Proofs.Tryd.prog 28 args σ Post := T.walk Go.Proofs.Tryd.func28 cf28 hl rfl h

/-- vinery/vinerylaw07.MrouteLeaves -/
@[reducible] def vb8 : VC :=
  .seq (.region [m 2 (.box 0 (t 0)), m 3 (.box 1 (t 1)), m 4 (.mov (.c (.bool false)))]) <|
  .seq (.region [m 11 (.call false 28 []), m 5 (.mov (t 11))]) <|
  .seq (.region [m 12 (.load (some 62) (t 2)), m 13 (.call false 29 [(t 12)]), m 6 (.mov (t 13))]) <|
  .seq (.seq (.region [m 14 (.mov (t 6)), m 15 (.un .not (t 14))]) <|
  .cond (t 15) (.seq (.region [m 16 (.mov (t 5)), m 4 (.mov (t 16))]) <|
  .ret) (.skip)) <|
  .seq (.region [m 18 (.load (some 62) (t 2)), m 19 (.load (some 17) (t 3)), m 20 (.call false 30 [(t 18), (t 19)]), m 17 (.mov (t 20)), m 21 (.extract 0 (t 17)), m 22 (.extract 1 (t 17)), m 7 (.alloc 2 [(i 0), (b 0), (b 0), (b 0), (b 0), (b 0), (b 0), (b 0), (b 0), (i 0), (i 0), (b 0), (b 0), (b 0), (b 0), (b 0), (b 0), (b 0), (b 0), (b 0), (b 0), (b 0), (b 0), (b 0), (b 0), (b 0), (b 0), (i 0), (b 0), (b 0), (b 0), (b 0), (b 0), (b 0), (b 0), (b 0), (b 0), (b 0), (b 0), (b 0), (b 0), (b 0), (b 0), (b 0), (i 0), (b 0), (b 0), (b 0), (b 0), (b 0), (b 0), (b 0), (b 0), (b 0), (b 0), (b 0), (b 0), (b 0), (b 0), (b 0), (b 0), (.str [])]), e (.store 62 (t 7) (t 21)), m 8 (.mov (t 22))]) <|
  .seq (.region [m 24 (.load (some 62) (t 2)), m 25 (.call false 31 [(t 24)]), m 23 (.mov (t 25)), m 26 (.extract 0 (t 23)), m 27 (.extract 1 (t 23)), m 9 (.mov (t 26)), m 10 (.mov (t 27))]) <|
  .seq (.seq (.region [m 28 (.mov (t 8)), m 29 (.bin .neq .num (t 28) (.c (i 0)))]) <|
  .cond (t 29) (.seq (.region [m 30 (.mov (t 5)), m 31 (.mov (t 30)), g 32 31 true (.load (some 62) (t 7)), g 33 31 true (.build [(i 0), (b 0), (b 0), (b 0), (b 0), (b 0), (b 0), (b 0), (b 0), (i 0), (i 0), (b 0), (b 0), (b 0), (b 0), (b 0), (b 0), (b 0), (b 0), (b 0), (b 0), (b 0), (b 0), (b 0), (b 0), (b 0), (b 0), (i 0), (b 0), (b 0), (b 0), (b 0), (b 0), (b 0), (b 0), (b 0), (b 0), (b 0), (b 0), (b 0), (b 0), (b 0), (b 0), (b 0), (i 0), (b 0), (b 0), (b 0), (b 0), (b 0), (b 0), (b 0), (b 0), (b 0), (b 0), (b 0), (b 0), (b 0), (b 0), (b 0), (b 0), (.str [])] []), g 34 31 true (.eqAgg [(.i .i64), (.i .u8), (.i .u8), (.i .u8), (.i .u8), (.i .u8), (.i .u8), (.i .u8), (.i .u8), (.i .i64), (.i .i64), (.i .u8), (.i .u8), (.i .u8), (.i .u8), (.i .u8), (.i .u8), (.i .u8), (.i .u8), (.i .u8), (.i .u8), (.i .u8), (.i .u8), (.i .u8), (.i .u8), (.i .u8), (.i .u8), (.i .i64), (.i .u8), (.i .u8), (.i .u8), (.i .u8), (.i .u8), (.i .u8), (.i .u8), (.i .u8), (.i .u8), (.i .u8), (.i .u8), (.i .u8), (.i .u8), (.i .u8), (.i .u8), (.i .u8), (.i .i64), (.i .u8), (.i .u8), (.i .u8), (.i .u8), (.i .u8), (.i .u8), (.i .u8), (.i .u8), (.i .u8), (.i .u8), (.i .u8), (.i .u8), (.i .u8), (.i .u8), (.i .u8), (.i .u8), .s] false (t 32) (t 33)), m 35 (.pick (t 31) (t 34) (.c (.bool false))), m 36 (.mov (t 35)), g 37 36 true (.mov (t 10)), g 38 36 true (.bin .neq .num (t 37) (.c (i 0))), g 39 36 true (.mov (t 38)), g 40 39 false (.field 0 (t 2)), g 41 39 false (.load none (t 40)), g 42 39 false (.bin .neq .num (t 41) (.c (i 2))), g 43 39 false (.mov (t 42)), g 44 43 true (.field 0 (t 2)), g 45 43 true (.load none (t 44)), g 46 43 true (.bin .neq .num (t 45) (.c (i 3))), g 47 39 false (.pick (t 43) (t 46) (.c (.bool false))), g 48 36 true (.pick (t 39) (.c (.bool true)) (t 47)), g 49 36 true (.mov (t 48)), g 50 49 false (.field 0 (t 3)), g 51 49 false (.load none (t 50)), g 52 49 false (.bin .neq .num (t 51) (.c (i 4))), g 53 49 false (.mov (t 52)), g 54 53 true (.field 0 (t 3)), g 55 53 true (.load none (t 54)), g 56 53 true (.bin .neq .num (t 55) (.c (i 16))), g 57 49 false (.pick (t 53) (t 56) (.c (.bool false))), g 58 36 true (.pick (t 49) (.c (.bool true)) (t 57)), g 59 36 true (.mov (t 58)), g 60 59 false (.load (some 17) (t 3)), g 61 59 false (.build [(i 0), (b 0), (b 0), (b 0), (b 0), (b 0), (b 0), (b 0), (b 0), (i 0), (i 0), (b 0), (b 0), (b 0), (b 0), (b 0), (b 0), (b 0), (b 0), (b 0), (b 0), (b 0), (b 0), (b 0), (b 0), (b 0), (b 0), (i 0), (b 0), (b 0), (b 0), (b 0), (b 0), (b 0), (b 0), (b 0), (b 0), (b 0), (b 0), (b 0), (b 0), (b 0), (b 0), (b 0), (i 0), (b 0), (b 0), (b 0), (b 0), (b 0), (b 0), (b 0), (b 0), (b 0), (b 0), (b 0), (b 0), (b 0), (b 0), (b 0), (b 0), (.str [])] [(0, 1, (.c (i 1))), (44, 17, (t 60))]), g 62 59 false (.call false 32 [(t 61)]), g 63 59 false (.un .not (t 62)), g 64 36 true (.pick (t 59) (.c (.bool true)) (t 63)), m 65 (.pick (t 36) (t 64) (.c (.bool false))), m 4 (.mov (t 65))]) <|
  .ret) (.skip)) <|
  .seq (.region [m 66 (.mov (t 5)), m 67 (.mov (t 66)), g 68 67 true (.mov (t 10)), g 69 67 true (.bin .eql .num (t 68) (.c (i 0))), m 70 (.pick (t 67) (t 69) (.c (.bool false))), m 71 (.mov (t 70)), g 72 71 true (.load (some 62) (t 7)), g 73 71 true (.call false 32 [(t 72)]), m 74 (.pick (t 71) (t 73) (.c (.bool false))), m 75 (.mov (t 74)), g 76 75 true (.field 61 (t 7)), g 77 75 true (.load none (t 76)), g 78 75 true (.mov (t 9)), g 79 75 true (.b2s (t 78)), g 80 75 true (.bin .eql .num (t 77) (t 79)), m 81 (.pick (t 75) (t 80) (.c (.bool false))), m 82 (.mov (t 81)), g 83 82 true (.field 44 (t 7)), g 84 82 true (.load (some 17) (t 83)), g 85 82 true (.load (some 17) (t 3)), g 86 82 true (.eqAgg [(.i .i64), (.i .u8), (.i .u8), (.i .u8), (.i .u8), (.i .u8), (.i .u8), (.i .u8), (.i .u8), (.i .u8), (.i .u8), (.i .u8), (.i .u8), (.i .u8), (.i .u8), (.i .u8), (.i .u8)] false (t 84) (t 85)), m 87 (.pick (t 82) (t 86) (.c (.bool false))), m 88 (.mov (t 87)), g 89 88 true (.field 0 (t 2)), g 90 88 true (.load none (t 89)), g 91 88 true (.bin .eql .num (t 90) (.c (i 2))), g 92 88 true (.mov (t 91)), g 93 92 false (.field 0 (t 2)), g 94 92 false (.load none (t 93)), g 95 92 false (.bin .eql .num (t 94) (.c (i 3))), g 96 88 true (.pick (t 92) (.c (.bool true)) (t 95)), m 97 (.pick (t 88) (t 96) (.c (.bool false))), m 4 (.mov (t 97))]) <|
  .ret
def vf8 : VFun := ⟨98, 3, vb8, [.tmp 4], false⟩
theorem cf8 : cFun Go.Proofs.Tryd.prog rawF false Go.Proofs.Tryd.f8 = some vf8 := by kernel_rfl
theorem T8 {args : List PV} {σ : VHeap} {Post : KP} (h : belH σ.length σ → (∀ c, c ∈ args → bel σ.length c) → vrun Go.Proofs.Tryd.prog σ.length vb8 (argsEnv args) (σ ++ [dd, dd, dd]) (vend vf8 (TrimP σ.length Post))) (hl : args.length ≤ 98 := by exact Nat.le_of_ble_eq_true rfl) : T Go.Proofs.Tryd.prog 8 args σ Post := T.walk Go.Proofs.Tryd.func8 cf8 hl rfl h

/-- vinery/vinerylaw07.MrouteApart -/
@[reducible] def vb9 : VC :=
  .seq (.region [m 2 (.box 0 (t 0)), m 3 (.box 1 (t 1)), m 4 (.mov (.c (.bool false)))]) <|
  .seq (.region [m 9 (.call false 28 []), m 5 (.mov (t 9))]) <|
  .seq (.region [m 10 (.load (some 62) (t 2)), m 11 (.call false 29 [(t 10)]), m 6 (.mov (t 11))]) <|
  .seq (.region [m 12 (.load (some 62) (t 3)), m 13 (.call false 29 [(t 12)]), m 7 (.mov (t 13))]) <|
  .seq (.seq (.region [m 14 (.mov (t 6)), m 15 (.un .not (t 14)), m 16 (.mov (t 15)), g 17 16 false (.mov (t 7)), g 18 16 false (.un .not (t 17)), m 19 (.pick (t 16) (.c (.bool true)) (t 18)), m 20 (.mov (t 19)), g 21 20 false (.load (some 62) (t 2)), g 22 20 false (.call false 32 [(t 21)]), g 23 20 false (.un .not (t 22)), m 24 (.pick (t 20) (.c (.bool true)) (t 23)), m 25 (.mov (t 24)), g 26 25 false (.load (some 62) (t 3)), g 27 25 false (.call false 32 [(t 26)]), g 28 25 false (.un .not (t 27)), m 29 (.pick (t 25) (.c (.bool true)) (t 28))]) <|
  .cond (t 29) (.seq (.region [m 30 (.mov (t 5)), m 4 (.mov (t 30))]) <|
  .ret) (.skip)) <|
  .seq (.region [m 31 (.load (some 62) (t 2)), m 32 (.load (some 62) (t 3)), m 33 (.call false 33 [(t 31), (t 32)]), m 8 (.mov (t 33))]) <|
  .seq (.dreg [(m 34 (.mov (t 5)), []), (m 35 (.mov (t 34)), [0]), (g 36 35 true (.mov (t 8)), [1]), (g 37 35 true (.bin .eql .num (t 36) (.c (i 0))), [2, 1]), (g 38 35 true (.load (some 62) (t 2)), [1]), (g 39 35 true (.load (some 62) (t 3)), [1]), (g 40 35 true (.eqAgg [(.i .i64), (.i .u8), (.i .u8), (.i .u8), (.i .u8), (.i .u8), (.i .u8), (.i .u8), (.i .u8), (.i .i64), (.i .i64), (.i .u8), (.i .u8), (.i .u8), (.i .u8), (.i .u8), (.i .u8), (.i .u8), (.i .u8), (.i .u8), (.i .u8), (.i .u8), (.i .u8), (.i .u8), (.i .u8), (.i .u8), (.i .u8), (.i .i64), (.i .u8), (.i .u8), (.i .u8), (.i .u8), (.i .u8), (.i .u8), (.i .u8), (.i .u8), (.i .u8), (.i .u8), (.i .u8), (.i .u8), (.i .u8), (.i .u8), (.i .u8), (.i .u8), (.i .i64), (.i .u8), (.i .u8), (.i .u8), (.i .u8), (.i .u8), (.i .u8), (.i .u8), (.i .u8), (.i .u8), (.i .u8), (.i .u8), (.i .u8), (.i .u8), (.i .u8), (.i .u8), (.i .u8), .s] false (t 38) (t 39)), [4, 5, 1]), (g 41 35 true (.bin .eql .bool (t 37) (t 40)), [3, 6, 1]), (m 42 (.pick (t 35) (t 41) (.c (.bool false))), [1, 7]), (m 43 (.mov (t 42)), [8, 1]), (g 44 43 true (.load (some 62) (t 3)), [9]), (g 45 43 true (.load (some 62) (t 2)), [9]), (g 46 43 true (.call false 33 [(t 44), (t 45)]), [10, 11, 9, 9]), (g 47 43 true (.mov (t 8)), [9]), (g 48 43 true (.un .neg (t 47)), [13, 9]), (g 49 43 true (.bin .eql .num (t 46) (t 48)), [12, 14, 9]), (m 50 (.pick (t 43) (t 49) (.c (.bool false))), [9, 15]), (m 51 (.mov (t 50)), [16, 12]), (g 52 51 true (.load (some 62) (t 2)), [17]), (g 53 51 true (.call false 34 [(t 52)]), [18, 17, 17]), (g 54 51 true (.load (some 62) (t 3)), [17]), (g 55 51 true (.call false 34 [(t 54)]), [20, 19, 17]), (g 56 51 true (.bin .eql .num (t 53) (t 55)), [19, 21, 17]), (g 57 51 true (.load (some 62) (t 2)), [17]), (g 58 51 true (.load (some 62) (t 3)), [17]), (g 59 51 true (.eqAgg [(.i .i64), (.i .u8), (.i .u8), (.i .u8), (.i .u8), (.i .u8), (.i .u8), (.i .u8), (.i .u8), (.i .i64), (.i .i64), (.i .u8), (.i .u8), (.i .u8), (.i .u8), (.i .u8), (.i .u8), (.i .u8), (.i .u8), (.i .u8), (.i .u8), (.i .u8), (.i .u8), (.i .u8), (.i .u8), (.i .u8), (.i .u8), (.i .i64), (.i .u8), (.i .u8), (.i .u8), (.i .u8), (.i .u8), (.i .u8), (.i .u8), (.i .u8), (.i .u8), (.i .u8), (.i .u8), (.i .u8), (.i .u8), (.i .u8), (.i .u8), (.i .u8), (.i .i64), (.i .u8), (.i .u8), (.i .u8), (.i .u8), (.i .u8), (.i .u8), (.i .u8), (.i .u8), (.i .u8), (.i .u8), (.i .u8), (.i .u8), (.i .u8), (.i .u8), (.i .u8), (.i .u8), .s] false (t 57) (t 58)), [23, 24, 17]), (g 60 51 true (.bin .eql .bool (t 56) (t 59)), [22, 25, 17]), (m 61 (.pick (t 51) (t 60) (.c (.bool false))), [17, 26]), (m 4 (.mov (t 61)), [27, 21, 0, 1, 2, 3, 4, 5, 6, 7, 8, 9, 10, 11, 12, 13, 14, 15, 16, 17, 18, 19, 20, 21, 22, 23, 24, 25, 26, 27])] [(2, 0), (2, 1), (2, 2), (2, 3), (1, 4), (1, 5), (2, 6), (2, 7), (2, 8), (2, 9), (1, 10), (1, 11), (1, 12), (2, 13), (2, 14), (2, 15), (2, 16), (2, 17), (1, 18), (1, 19), (1, 20), (1, 21), (2, 22), (1, 23), (1, 24), (2, 25), (2, 26), (2, 27), (2, 28)] [0, 1, 3, 7, 3, 3, 51, 127, 255, 511, 1023, 1023, 4095, 1023, 9215, 32767, 65535, 131071, 262143, 524287, 262143, 2097151, 4194303, 262143, 262143, 25427967, 67108863, 134217727, 268435455]) <|
  .ret
def vf9 : VFun := ⟨62, 2, vb9, [.tmp 4], false⟩
theorem cf9 : cFun Go.Proofs.Tryd.prog rawF false Go.Proofs.Tryd.f9 = some vf9 := by kernel_rfl
theorem T9 {args : List PV} {σ : VHeap} {Post : KP} (h : belH σ.length σ → (∀ c, c ∈ args → bel σ.length c) → vrun Go.Proofs.Tryd.prog σ.length vb9 (argsEnv args) (σ ++ [dd, dd]) (vend vf9 (TrimP σ.length Post))) (hl : args.length ≤ 62 := by exact Nat.le_of_ble_eq_true rfl) : T Go.Proofs.Tryd.prog 9 args σ Post := T.walk Go.Proofs.Tryd.func9 cf9 hl rfl h

/-- vinery/vinerylaw07.MrouteBack -/
@[reducible] def vb10 : VC :=
  .seq (.region [m 4 (.box 0 (t 0)), m 8 (.mov (.c (.bool false)))]) <|
  .seq (.region [m 26 (.call false 28 []), m 9 (.mov (t 26))]) <|
  .seq (.region [m 27 (.load (some 62) (t 4)), m 28 (.call false 29 [(t 27)]), m 10 (.mov (t 28))]) <|
  .seq (.seq (.region [m 29 (.mov (t 10)), m 30 (.un .not (t 29)), m 31 (.mov (t 30)), g 32 31 false (.mov (t 1)), g 33 31 false (.len (t 32)), g 34 31 false (.bin .gtr .num (t 33) (.c (i 40))), m 35 (.pick (t 31) (.c (.bool true)) (t 34)), m 36 (.mov (t 35)), g 37 36 false (.mov (t 2)), g 38 36 false (.len (t 37)), g 39 36 false (.bin .gtr .num (t 38) (.c (i 4096))), m 40 (.pick (t 36) (.c (.bool true)) (t 39))]) <|
  .cond (t 40) (.seq (.region [m 41 (.mov (t 9)), m 8 (.mov (t 41))]) <|
  .ret) (.skip)) <|
  .seq (.region [m 43 (.load (some 62) (t 4)), m 44 (.call false 31 [(t 43)]), m 42 (.mov (t 44)), m 45 (.extract 0 (t 42)), m 46 (.extract 1 (t 42)), m 11 (.mov (t 45)), m 12 (.mov (t 46))]) <|
  .seq (.seq (.region [m 47 (.mov (t 12)), m 48 (.bin .eql .num (t 47) (.c (i 0)))]) <|
  .cond (t 48) (.seq (.region [m 50 (.mov (t 11)), m 51 (.call false 35 [(t 50), (.c (i 4))]), m 49 (.mov (t 51)), m 52 (.extract 0 (t 49)), m 53 (.extract 1 (t 49)), m 13 (.alloc 1 [(i 0), (b 0), (b 0), (b 0), (b 0), (b 0), (b 0), (b 0), (b 0), (i 0), (i 0), (b 0), (b 0), (b 0), (b 0), (b 0), (b 0), (b 0), (b 0), (b 0), (b 0), (b 0), (b 0), (b 0), (b 0), (b 0), (b 0), (i 0), (b 0), (b 0), (b 0), (b 0), (b 0), (b 0), (b 0), (b 0), (b 0), (b 0), (b 0), (b 0), (b 0), (b 0), (b 0), (b 0), (i 0), (b 0), (b 0), (b 0), (b 0), (b 0), (b 0), (b 0), (b 0), (b 0), (b 0), (b 0), (b 0), (b 0), (b 0), (b 0), (b 0), (.str [])]), e (.store 62 (t 13) (t 52)), m 14 (.mov (t 53))]) <|
  .seq (.region [m 55 (.mov (t 11)), m 56 (.call false 35 [(t 55), (.c (i 16))]), m 54 (.mov (t 56)), m 57 (.extract 0 (t 54)), m 58 (.extract 1 (t 54)), m 15 (.alloc 2 [(i 0), (b 0), (b 0), (b 0), (b 0), (b 0), (b 0), (b 0), (b 0), (i 0), (i 0), (b 0), (b 0), (b 0), (b 0), (b 0), (b 0), (b 0), (b 0), (b 0), (b 0), (b 0), (b 0), (b 0), (b 0), (b 0), (b 0), (i 0), (b 0), (b 0), (b 0), (b 0), (b 0), (b 0), (b 0), (b 0), (b 0), (b 0), (b 0), (b 0), (b 0), (b 0), (b 0), (b 0), (i 0), (b 0), (b 0), (b 0), (b 0), (b 0), (b 0), (b 0), (b 0), (b 0), (b 0), (b 0), (b 0), (b 0), (b 0), (b 0), (b 0), (.str [])]), e (.store 62 (t 15) (t 57)), m 16 (.mov (t 58))]) <|
  .seq (.region [m 59 (.mov (t 14)), m 60 (.bin .neq .num (t 59) (.c (i 0))), m 61 (.mov (t 60)), g 62 61 true (.mov (t 16)), g 63 61 true (.bin .neq .num (t 62) (.c (i 0))), m 64 (.pick (t 61) (t 63) (.c (.bool false))), m 65 (.mov (t 64)), g 66 65 false (.mov (t 14)), g 67 65 false (.bin .eql .num (t 66) (.c (i 0))), g 68 65 false (.mov (t 67)), g 69 68 true (.load (some 62) (t 13)), g 70 68 true (.load (some 62) (t 4)), g 71 68 true (.eqAgg [(.i .i64), (.i .u8), (.i .u8), (.i .u8), (.i .u8), (.i .u8), (.i .u8), (.i .u8), (.i .u8), (.i .i64), (.i .i64), (.i .u8), (.i .u8), (.i .u8), (.i .u8), (.i .u8), (.i .u8), (.i .u8), (.i .u8), (.i .u8), (.i .u8), (.i .u8), (.i .u8), (.i .u8), (.i .u8), (.i .u8), (.i .u8), (.i .i64), (.i .u8), (.i .u8), (.i .u8), (.i .u8), (.i .u8), (.i .u8), (.i .u8), (.i .u8), (.i .u8), (.i .u8), (.i .u8), (.i .u8), (.i .u8), (.i .u8), (.i .u8), (.i .u8), (.i .i64), (.i .u8), (.i .u8), (.i .u8), (.i .u8), (.i .u8), (.i .u8), (.i .u8), (.i .u8), (.i .u8), (.i .u8), (.i .u8), (.i .u8), (.i .u8), (.i .u8), (.i .u8), (.i .u8), .s] true (t 69) (t 70)), g 72 65 false (.pick (t 68) (t 71) (.c (.bool false))), m 73 (.pick (t 65) (.c (.bool true)) (t 72)), m 74 (.mov (t 73)), g 75 74 false (.mov (t 16)), g 76 74 false (.bin .eql .num (t 75) (.c (i 0))), g 77 74 false (.mov (t 76)), g 78 77 true (.load (some 62) (t 15)), g 79 77 true (.load (some 62) (t 4)), g 80 77 true (.eqAgg [(.i .i64), (.i .u8), (.i .u8), (.i .u8), (.i .u8), (.i .u8), (.i .u8), (.i .u8), (.i .u8), (.i .i64), (.i .i64), (.i .u8), (.i .u8), (.i .u8), (.i .u8), (.i .u8), (.i .u8), (.i .u8), (.i .u8), (.i .u8), (.i .u8), (.i .u8), (.i .u8), (.i .u8), (.i .u8), (.i .u8), (.i .u8), (.i .i64), (.i .u8), (.i .u8), (.i .u8), (.i .u8), (.i .u8), (.i .u8), (.i .u8), (.i .u8), (.i .u8), (.i .u8), (.i .u8), (.i .u8), (.i .u8), (.i .u8), (.i .u8), (.i .u8), (.i .i64), (.i .u8), (.i .u8), (.i .u8), (.i .u8), (.i .u8), (.i .u8), (.i .u8), (.i .u8), (.i .u8), (.i .u8), (.i .u8), (.i .u8), (.i .u8), (.i .u8), (.i .u8), (.i .u8), .s] true (t 78) (t 79)), g 81 74 false (.pick (t 77) (t 80) (.c (.bool false))), m 82 (.pick (t 74) (.c (.bool true)) (t 81)), m 83 (.mov (t 82)), g 84 83 false (.load (some 62) (t 4)), g 85 83 false (.call false 32 [(t 84)]), g 86 83 false (.un .not (t 85)), m 87 (.pick (t 83) (.c (.bool true)) (t 86))]) <|
  .cond (t 87) (.seq (.region [m 8 (.mov (.c (.bool false)))]) <|
  .ret) (.skip)) (.skip)) <|
  .seq (.region [m 89 (.mov (t 2)), m 90 (.mov (t 3)), m 91 (.call false 36 [(t 89), (t 90)]), m 88 (.mov (t 91)), m 92 (.extract 0 (t 88)), m 93 (.extract 1 (t 88)), m 94 (.extract 2 (t 88)), m 17 (.alloc 3 [(i 0), (b 0), (b 0), (b 0), (b 0), (b 0), (b 0), (b 0), (b 0), (i 0), (i 0), (b 0), (b 0), (b 0), (b 0), (b 0), (b 0), (b 0), (b 0), (b 0), (b 0), (b 0), (b 0), (b 0), (b 0), (b 0), (b 0), (i 0), (b 0), (b 0), (b 0), (b 0), (b 0), (b 0), (b 0), (b 0), (b 0), (b 0), (b 0), (b 0), (b 0), (b 0), (b 0), (b 0), (i 0), (b 0), (b 0), (b 0), (b 0), (b 0), (b 0), (b 0), (b 0), (b 0), (b 0), (b 0), (b 0), (b 0), (b 0), (b 0), (b 0), (.str [])]), e (.store 62 (t 17) (t 92)), m 18 (.mov (t 93)), m 19 (.mov (t 94))]) <|
  .seq (.seq (.region [m 95 (.mov (t 19)), m 96 (.bin .eql .num (t 95) (.c (i 0)))]) <|
  .cond (t 96) (.seq (.region [m 98 (.load (some 62) (t 17)), m 99 (.call false 31 [(t 98)]), m 97 (.mov (t 99)), m 100 (.extract 0 (t 97)), m 101 (.extract 1 (t 97)), m 20 (.mov (t 100)), m 21 (.mov (t 101))]) <|
  .seq (.dreg [(m 102 (.mov (t 21)), []), (m 103 (.bin .neq .num (t 102) (.c (i 0))), [0]), (m 104 (.mov (t 103)), [1]), (g 105 104 false (.mov (t 18)), [2]), (g 106 104 false (.mov (t 2)), [2]), (g 107 104 false (.len (t 106)), [4, 2]), (g 108 104 false (.bin .gtr .num (t 105) (t 107)), [3, 5, 2]), (m 109 (.pick (t 104) (.c (.bool true)) (t 108)), [2, 6]), (m 110 (.mov (t 109)), [7, 2]), (g 111 110 false (.mov (t 20)), [8]), (g 112 110 false (.b2s (t 111)), [9, 8]), (g 113 110 false (.mov (t 2)), [8]), (g 114 110 false (.mov (t 18)), [8]), (g 115 110 false (.slice 1 (t 113) none (some (t 114))), [11, 12, 8]), (g 116 110 false (.b2s (t 115)), [13, 8]), (g 117 110 false (.bin .neq .num (t 112) (t 116)), [10, 14, 8]), (m 118 (.pick (t 110) (.c (.bool true)) (t 117)), [8, 15])] [(2, 0), (2, 1), (2, 2), (2, 3), (2, 4), (1, 5), (2, 6), (2, 7), (2, 8), (2, 9), (1, 10), (2, 11), (2, 12), (1, 13), (1, 14), (2, 15), (2, 16)] [0, 1, 3, 7, 7, 23, 63, 127, 255, 511, 1023, 511, 511, 6655, 14847, 32767, 65535]) <|
  .cond (t 118) (.seq (.region [m 8 (.mov (.c (.bool false)))]) <|
  .ret) (.skip)) (.skip)) <|
  .seq (.region [m 120 (.mov (t 2)), m 121 (.mov (t 3)), m 122 (.call false 37 [(t 120), (t 121)]), m 119 (.mov (t 122)), m 123 (.extract 0 (t 119)), m 124 (.extract 1 (t 119)), m 22 (.mov (t 123)), m 23 (.mov (t 124))]) <|
  .seq (.seq (.region [m 125 (.mov (t 23)), m 126 (.bin .eql .num (t 125) (.c (i 0)))]) <|
  .cond (t 126) (.seq (.region [m 128 (.mov (t 22)), m 129 (.call false 38 [(t 128)]), m 127 (.mov (t 129)), m 130 (.extract 0 (t 127)), m 131 (.extract 1 (t 127)), m 24 (.mov (t 130)), m 25 (.mov (t 131))]) <|
  .seq (.region [m 132 (.mov (t 25)), m 133 (.bin .neq .num (t 132) (.c (i 0))), m 134 (.mov (t 133)), g 135 134 false (.mov (t 24)), g 136 134 false (.b2s (t 135)), g 137 134 false (.mov (t 2)), g 138 134 false (.b2s (t 137)), g 139 134 false (.bin .neq .num (t 136) (t 138)), m 140 (.pick (t 134) (.c (.bool true)) (t 139))]) <|
  .cond (t 140) (.seq (.region [m 8 (.mov (.c (.bool false)))]) <|
  .ret) (.skip)) (.skip)) <|
  .seq (.region [m 141 (.mov (t 9)), m 8 (.mov (t 141))]) <|
  .ret
def vf10 : VFun := ⟨142, 4, vb10, [.tmp 8], false⟩
theorem cf10 : cFun Go.Proofs.Tryd.prog rawF false Go.Proofs.Tryd.f10 = some vf10 := by kernel_rfl
theorem T10 {args : List PV} {σ : VHeap} {Post : KP} (h : belH σ.length σ → (∀ c, c ∈ args → bel σ.length c) → vrun Go.Proofs.Tryd.prog σ.length vb10 (argsEnv args) (σ ++ [dd, dd, dd, dd]) (vend vf10 (TrimP σ.length Post))) (hl : args.length ≤ 142 := by exact Nat.le_of_ble_eq_true rfl) : T Go.Proofs.Tryd.prog 10 args σ Post := T.walk Go.Proofs.Tryd.func10 cf10 hl rfl h

end Go.Proofs.YtdkjcadffhnjgaaDoor
