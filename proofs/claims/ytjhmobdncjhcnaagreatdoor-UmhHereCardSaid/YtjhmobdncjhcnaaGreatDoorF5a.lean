/- Functions of the program, in the small language. -/
import Derived.Test.YtjhmobdncjhcnaaGreatDoorF1
namespace Go.Proofs.YtjhmobdncjhcnaaGreatDoor
open Go Go.V D
variable {args : List PV} {σ : VHeap} {Post : KP}
@[reducible] def vb113 : VC :=
  .seq (.region [m 2 (.newRow 0 8)]) <|
  .seq (.seq (.region [m 3 (.mov (t 0)), m 4 (.bin .eql .slice (t 3) (.c .nils))]) <|
  .cond (t 4) (.seq (.region [m 2 (.newRow 0 8)]) <|
  .ret) (.skip)) <|
  .seq (.region [m 5 (.buildSlice 1 8 0 [o, o, o, o, o, o, o, o] []), m 6 (.mov (t 0)), m 7 (.append 2 8 8 (t 5) (t 6)), m 2 (.mov (t 7))]) <|
  .ret
def vf113 : VFun := ⟨8, 3, vb113, [.tmp 2], false⟩
theorem cf113 : cFun Tryz.prog rawF false Tryz.f113 = some vf113 := by kernel_rfl
theorem T113 (h : HT σ args Post vb113 vf113 [dd, dd, dd]) (hl : args.length ≤ 8 := by exact Nat.le_of_ble_eq_true rfl) : T Tryz.prog 113 args σ Post := T.walk Tryz.func113 cf113 hl rfl h
@[reducible] def vb114 : VC :=
  .seq (.region [m 2 (.newRow 0 17)]) <|
  .seq (.seq (.region [m 3 (.mov (t 0)), m 4 (.bin .eql .slice (t 3) (.c .nils))]) <|
  .cond (t 4) (.seq (.region [m 2 (.newRow 0 17)]) <|
  .ret) (.skip)) <|
  .seq (.region [m 5 (.buildSlice 1 17 0 [q, o, o, o, o, o, o, o, o, o, o, o, o, o, o, o, o] []), m 6 (.mov (t 0)), m 7 (.append 2 17 24 (t 5) (t 6)), m 2 (.mov (t 7))]) <|
  .ret
def vf114 : VFun := ⟨8, 3, vb114, [.tmp 2], false⟩
theorem cf114 : cFun Tryz.prog rawF false Tryz.f114 = some vf114 := by kernel_rfl
theorem T114 (h : HT σ args Post vb114 vf114 [dd, dd, dd]) (hl : args.length ≤ 8 := by exact Nat.le_of_ble_eq_true rfl) : T Tryz.prog 114 args σ Post := T.walk Tryz.func114 cf114 hl rfl h
@[reducible] def vb167 : VC :=
  .seq (.region [m 2 (.newRow 0 2)]) <|
  .seq (.seq (.region [m 3 (.mov (t 0)), m 4 (.bin .eql .slice (t 3) (.c .nils))]) <|
  .cond (t 4) (.seq (.region [m 2 (.newRow 0 2)]) <|
  .ret) (.skip)) <|
  .seq (.region [m 5 (.buildSlice 1 2 0 [(.bool false), .nils] []), m 6 (.mov (t 0)), m 7 (.append 2 2 32 (t 5) (t 6)), m 2 (.mov (t 7))]) <|
  .ret
def vf167 : VFun := ⟨8, 3, vb167, [.tmp 2], false⟩
theorem cf167 : cFun Tryz.prog rawF false Tryz.f167 = some vf167 := by kernel_rfl
@[reducible] def vb168 : VC :=
  .seq (.region [m 2 (.newRow 0 1)]) <|
  .seq (.seq (.region [m 3 (.mov (t 0)), m 4 (.bin .eql .slice (t 3) (.c .nils))]) <|
  .cond (t 4) (.seq (.region [m 2 (.newRow 0 1)]) <|
  .ret) (.skip)) <|
  .seq (.region [m 5 (.buildSlice 1 1 0 [q] []), m 6 (.mov (t 0)), m 7 (.append 2 1 8 (t 5) (t 6)), m 2 (.mov (t 7))]) <|
  .ret
def vf168 : VFun := ⟨8, 3, vb168, [.tmp 2], false⟩
theorem cf168 : cFun Tryz.prog rawF false Tryz.f168 = some vf168 := by kernel_rfl
theorem T168 (h : HT σ args Post vb168 vf168 [dd, dd, dd]) (hl : args.length ≤ 8 := by exact Nat.le_of_ble_eq_true rfl) : T Tryz.prog 168 args σ Post := T.walk Tryz.func168 cf168 hl rfl h
@[reducible] def vb169 : VC :=
  .seq (.region [m 2 (.newRow 0 21)]) <|
  .seq (.seq (.region [m 3 (.mov (t 0)), m 4 (.bin .eql .slice (t 3) (.c .nils))]) <|
  .cond (t 4) (.seq (.region [m 2 (.newRow 0 21)]) <|
  .ret) (.skip)) <|
  .seq (.region [m 5 (.buildSlice 1 21 0 [(.bool false), q, q, q, o, o, o, o, o, o, o, o, o, o, o, o, o, o, o, o, .nils] []), m 6 (.mov (t 0)), m 7 (.append 2 21 72 (t 5) (t 6)), m 2 (.mov (t 7))]) <|
  .ret
def vf169 : VFun := ⟨8, 3, vb169, [.tmp 2], false⟩
theorem cf169 : cFun Tryz.prog rawF false Tryz.f169 = some vf169 := by kernel_rfl
@[reducible] def vb170 : VC :=
  .seq (.region [m 2 (.newRow 0 1)]) <|
  .seq (.seq (.region [m 3 (.mov (t 0)), m 4 (.bin .eql .slice (t 3) (.c .nils))]) <|
  .cond (t 4) (.seq (.region [m 2 (.newRow 0 1)]) <|
  .ret) (.skip)) <|
  .seq (.region [m 5 (.buildSlice 1 1 0 [o] []), m 6 (.mov (t 0)), m 7 (.append 2 1 1 (t 5) (t 6)), m 2 (.mov (t 7))]) <|
  .ret
def vf170 : VFun := ⟨8, 3, vb170, [.tmp 2], false⟩
theorem cf170 : cFun Tryz.prog rawF false Tryz.f170 = some vf170 := by kernel_rfl
theorem T170 (h : HT σ args Post vb170 vf170 [dd, dd, dd]) (hl : args.length ≤ 8 := by exact Nat.le_of_ble_eq_true rfl) : T Tryz.prog 170 args σ Post := T.walk Tryz.func170 cf170 hl rfl h
@[reducible] def vb30 : VC :=
  .seq (.region [m 4 (.alloc 0 [q, q, q, o, o, o, o, o, o, o, o, q, q, o, o, o, o, o, o, o, o, o, o, o, o, o, o, o, o, q, o, o, o, o, o, o, o, o, o, o, o, o, o, o, o, o, q, o, o, o, o, o, o, o, o, o, o, o, o, o, o, o, o, (.str []), o, o, o, o, o, o, o, o, q, o, o, o, o, o, o, o, o, o, o, o, o, o, o, o, o, q, q, q, o, o, o, o, o, o, o, o, o, o, o, o, o, o, o, o, q, .nils, q, q, q, o, o, o, o, o, o, o, o, o, o, o, o, o, o, o, o, .nils, .nils, .nils])]) <|
  .seq (.region [m 5 (.build [o, o, o, o, o, o, o, o] [(0, 1, (.c o)), (1, 1, (.c o)), (2, 1, (.c o)), (3, 1, (.c (b 1))), (4, 1, (.c o)), (5, 1, (.c o)), (6, 1, (.c o)), (7, 1, (.c (b 1)))]), m 6 (.mov (t 0)), m 7 (.call false 31 [(.c (b 10)), (.c o), (.c o), (t 6)]), m 8 (.build [q, o, o, o, o, o, o, o, o, q, q, o, o, o, o, o, o, o, o, o, o, o, o, o, o, o, o, q, o, o, o, o, o, o, o, o, o, o, o, o, o, o, o, o, q, o, o, o, o, o, o, o, o, o, o, o, o, o, o, o, o, (.str [])] [(0, 1, (.c (i 1))), (1, 8, (t 5)), (44, 17, (t 7))]), m 9 (.mov (t 1)), m 10 (.call false 31 [(.c (b 10)), (.c o), (.c o), (t 9)]), m 11 (.build [q, .nils, q, q, q, o, o, o, o, o, o, o, o, o, o, o, o, o, o, o, o, .nils, .nils, .nils] [(2, 1, (.c (i (-1)))), (3, 1, (.c (i 100)))]), m 12 (.build [q, q, q, o, o, o, o, o, o, o, o, q, q, o, o, o, o, o, o, o, o, o, o, o, o, o, o, o, o, q, o, o, o, o, o, o, o, o, o, o, o, o, o, o, o, o, q, o, o, o, o, o, o, o, o, o, o, o, o, o, o, o, o, (.str []), o, o, o, o, o, o, o, o, q, o, o, o, o, o, o, o, o, o, o, o, o, o, o, o, o, q, q, q, o, o, o, o, o, o, o, o, o, o, o, o, o, o, o, o, q, .nils, q, q, q, o, o, o, o, o, o, o, o, o, o, o, o, o, o, o, o, .nils, .nils, .nils] [(0, 1, (.c (i 4))), (1, 1, (.c (i 5))), (2, 62, (t 8)), (91, 17, (t 10)), (108, 24, (t 11))]), e (.store 132 (t 4) (t 12))]) <|
  .ret
def vf30 : VFun := ⟨13, 1, vb30, [.cell 4 (some 132)], false⟩
theorem cf30 : cFun Tryz.prog rawF false Tryz.f30 = some vf30 := by kernel_rfl
end Go.Proofs.YtjhmobdncjhcnaaGreatDoor
