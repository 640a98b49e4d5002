/- The seat: which functions leave the heap alone; short words for its functions' text. -/
import Derived.Test.YtocnjlfnapefjaaGreatDoorEB
import Derived.Test.YtocnjlfnapefjaaGreatDoorProg
namespace Go.Proofs.YtocnjlfnapefjaaGreatDoor
open Go Go.V
namespace D
@[reducible] def i (n : Int) : PV := .int .i64 n
@[reducible] def b (n : Int) : PV := .int .u8 n
@[reducible] def t (k : Nat) : VA := .t k
@[reducible] def m (d : Nat) (o : VOp) : VO := ⟨some d, o, none⟩
@[reducible] def e (o : VOp) : VO := ⟨none, o, none⟩
@[reducible] def g (d s : Nat) (p : Bool) (o : VOp) : VO := ⟨some d, o, some (s, p)⟩
@[reducible] def dd : Nat × VObj := (0, .dead)
end D
/-- Functions that change the heap, or make what outlives them. -/
def loud : List Nat := [9, 10, 12, 13, 14, 15, 16, 20, 22, 23, 24, 25, 26, 27, 28, 29, 30, 31, 38, 39, 40, 41, 42, 44, 45, 51, 63, 64, 67, 71, 73, 77, 81, 83, 85, 87, 91, 97, 98, 101, 124, 125, 133, 134, 135, 137, 146, 147, 148, 149, 150, 151, 154, 155, 161, 162, 163, 173, 174, 175, 181, 182]
instance : Glob := ⟨fun _ => none, fun f => !memN loud f⟩
def rawF (f : FuncId) : Bool := Nat.beq f 68
end Go.Proofs.YtocnjlfnapefjaaGreatDoor
