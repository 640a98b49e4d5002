/- Messages: Same, of two that tell nothing. -/
import Derived.Test.YtocnjlfnapefjaaGreatDoorT8
import Derived.Test.YtocnjlfnapefjaaGreatDoorVAt
namespace Go.Proofs.YtocnjlfnapefjaaGreatDoor
open Go Go.V
set_option maxRecDepth 100000
noncomputable def tabS : List (Nat × VFun) := [(36, autoV Tryz.prog rawF Tryz.f36), (49, autoV Tryz.prog rawF Tryz.f49), (50, autoV Tryz.prog rawF Tryz.f50), (56, autoV Tryz.prog rawF Tryz.f56), (57, autoV Tryz.prog rawF Tryz.f57), (58, autoV Tryz.prog rawF Tryz.f58), (59, autoV Tryz.prog rawF Tryz.f59), (77, autoV Tryz.prog rawF Tryz.f77), (78, autoV Tryz.prog rawF Tryz.f78), (79, autoV Tryz.prog rawF Tryz.f79), (80, autoV Tryz.prog rawF Tryz.f80), (81, autoV Tryz.prog rawF Tryz.f81), (82, autoV Tryz.prog rawF Tryz.f82), (86, autoV Tryz.prog rawF Tryz.f86), (87, autoV Tryz.prog rawF Tryz.f87), (88, autoV Tryz.prog rawF Tryz.f88), (89, autoV Tryz.prog rawF Tryz.f89), (90, autoV Tryz.prog rawF Tryz.f90), (103, autoV Tryz.prog rawF Tryz.f103), (104, autoV Tryz.prog rawF Tryz.f104), (109, autoV Tryz.prog rawF Tryz.f109), (110, autoV Tryz.prog rawF Tryz.f110)]
theorem tabS_ok : TabOk Tryz.prog tabS := (TabOk.cons (autoOk Tryz.func36 (by kernel_rfl)) (TabOk.cons (autoOk Tryz.func49 (by kernel_rfl)) (TabOk.cons (autoOk Tryz.func50 (by kernel_rfl)) (TabOk.cons (autoOk Tryz.func56 (by kernel_rfl)) (TabOk.cons (autoOk Tryz.func57 (by kernel_rfl)) (TabOk.cons (autoOk Tryz.func58 (by kernel_rfl)) (TabOk.cons (autoOk Tryz.func59 (by kernel_rfl)) (TabOk.cons (autoOk Tryz.func77 (by kernel_rfl)) (TabOk.cons (autoOk Tryz.func78 (by kernel_rfl)) (TabOk.cons (autoOk Tryz.func79 (by kernel_rfl)) (TabOk.cons (autoOk Tryz.func80 (by kernel_rfl)) (TabOk.cons (autoOk Tryz.func81 (by kernel_rfl)) (TabOk.cons (autoOk Tryz.func82 (by kernel_rfl)) (TabOk.cons (autoOk Tryz.func86 (by kernel_rfl)) (TabOk.cons (autoOk Tryz.func87 (by kernel_rfl)) (TabOk.cons (autoOk Tryz.func88 (by kernel_rfl)) (TabOk.cons (autoOk Tryz.func89 (by kernel_rfl)) (TabOk.cons (autoOk Tryz.func90 (by kernel_rfl)) (TabOk.cons (autoOk Tryz.func103 (by kernel_rfl)) (TabOk.cons (autoOk Tryz.func104 (by kernel_rfl)) (TabOk.cons (autoOk Tryz.func109 (by kernel_rfl)) (TabOk.cons (autoOk Tryz.func110 (by kernel_rfl)) TabOk.nil))))))))))))))))))))))
def closS : List Nat := [78, 82, 86, 104]
theorem closS_ok : ∀ f, f ∈ closS → callOk Tryz.prog f = true := by
  intro f hf
  simp only [closS, List.mem_cons, List.not_mem_nil, or_false] at hf
  rcases hf with rfl | rfl | rfl | rfl <;> kernel_rfl
theorem glob_cl : ∀ g cells, Glob.tab g = some cells → ClL cells := fun g cells h => by cases h
def mO : Ms := { ms0 with kind := 1 }
theorem uSameO : U Tryz.prog 36 [.agg (msC mO), .agg (msC mO)] (.bool true) := U_kernelC (tab := tabS) (ext := extA closS) (spec := fun _ _ => none) 50 20 _ _ tabS_ok (extA_ok closS_ok) specNone glob_cl rfl inferInstance (by kernel_rfl)
end Go.Proofs.YtocnjlfnapefjaaGreatDoor
