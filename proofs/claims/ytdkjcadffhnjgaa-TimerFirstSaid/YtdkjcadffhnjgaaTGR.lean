/-
  TimerFirst returns true for every input, and its arguments read behind the call as they read before. No condition beyond the given row.
-/
import Derived.Test.YtdkjcadffhnjgaaRows
import Derived.WalkKit
import Derived.ProofKit
import Derived.OpenShut
import Derived.ShutString
import Derived.ChangeOld
import Derived.Below
import Derived.Test.YtdkjcadffhnjgaaV20
import Derived.Test.YtdkjcadffhnjgaaV21
import Derived.Test.YtdkjcadffhnjgaaTG
namespace Go.Proofs.Ytdkjcadffhnjgaa.timerFirst
open Go.ChangeShapes Go.WideShapes Go.ChangeAt Go.RowKit Go.V
set_option linter.unusedVariables false

theorem own : ownKnob Try.prog.godebug = none := by kernel_rfl
theorem laidOut : laidOutB Try.prog = true := by kernel_rfl
theorem sh31 : shOf Try.prog 12 31 = some [.sl [.int .i64, .str, .int .i64]] := by kernel_rfl

theorem walk (c0 : PV) (f0 : Fits (.sl [.int .i64, .str, .int .i64]) c0) : T Try.prog 6 [c0] [] (fun r _ => r = .bool true) := by
  cases f0 with
  | sl _ es hl h1 h2 =>
    refine tFirst (fun e he => ?_) (by unfold maxLen at hl; omega) (fun _ => rfl)
    have hlen := h1 e he
    match e, hlen with
    | [x, y, z], _ =>
      have fx := h2 _ 0 _ _ he rfl rfl
      have fy := h2 _ 1 _ _ he rfl rfl
      have fz := h2 _ 2 _ _ he rfl rfl
      cases fx
      cases fy
      cases fz with
      | int k n hw => exact ⟨_, _, _, rfl, wf_i64_le hw⟩

set_option maxRecDepth 100000 in
theorem lifted (os : Os) (started : os.Started) (H : Type) (enc : TypeId × Value → H) :
    ReturnsInHanded {} Try.checked os 6 .any (Rows.timerFirstSpec.pre6 enc Try.prog Try.f6 Rows.timerFirstRow.domain false) (Rows.timerFirstSpec.post enc Try.prog Try.f6 false true false false) := by
  refine returnsInHanded_of_change (C := Try.checked) own started (by kernel_rfl) Try.func6
    (ChangeSpec.witness6 (enc := enc) (C := Try.checked) false ⟨#[], #[.slice none 0 0], []⟩ 8 (by kernel_rfl) (by kernel_rfl) (by kernel_rfl) (by kernel_rfl)) ?_
  intro W base args ds gs before hval0 hW hcnd _
  have hval : ∀ (j : Nat) t v, Try.f6.params[j]? = some t → args[j]? = some v → Value.okWide Try.prog W .any base t v := hval0
  have hW' := hW
  obtain ⟨p, q, hA0, hV, rfl, hfz, hnd⟩ := hW
  have hA : DataW.TrodAll enc Try.prog W 0 (fun _ => true) true Try.f6.params.toList args.toList ds p := hA0
  rw [Try.params6] at hA hval
  obtain ⟨v0, vs0, d0, ds0, p0, q0, hargs, rfl, rfl, h0, r0⟩ := trodAll_cons hA
  obtain ⟨rfl, rfl, rfl⟩ := trodAll_nil r0
  obtain rfl : args = #[v0] := by cases args; simp_all
  obtain ⟨rfl, rfl⟩ := trodVars_none hV
  have lt0 : ∀ x ∈ p0, x.block < W.heap.size := by obtain ⟨m, hm⟩ := h0; exact DataW.trod_lt m _ _ _ hm
  obtain ⟨a0, len0, cap0, rfl⟩ := okWide_slice Try.underlying31 (hval 0 31 v0 rfl rfl)
  obtain ⟨c0, f0, b0⟩ := read_one (β := fun _ => none) sh31 h0 rfl
  clear hA0 hval0
  refine (below_of_T (walk c0 f0) rfl ?_).mono fun e W' ⟨he, bel⟩ => ?_
  · intro i c v h1 h2
    match i, h1, h2 with
    | 0, h1, h2 => cases h1; cases h2; exact b0
    | n + 1, h1, h2 => simp at h1
  subst he
  exact ⟨_, rfl, _, _, _, [], _, [], hW', trodAll_mk1 (shut_bool Try.underlying4 _), (trodAll_cons_mk (Below.trod laidOut (by kernel_rfl) (of_decide_eq_true (by kernel_rfl)) h0 bel lt0) trodAll_mk0), rfl, bel.frame _, fun h => by cases h⟩

theorem over : Rows.timerFirstRow.holds Try.pinned (OpenSpec.ofChange Rows.timerFirstSpec) :=
  OpenClaim.holds_of_wide 6 Try.f6 rfl rfl rfl rfl rfl rfl rfl ⟨rfl, rfl, rfl, rfl, rfl⟩ rfl rfl rfl rfl rfl (by kernel_rfl) Try.func6 (by kernel_rfl)
    (of_decide_eq_true (by kernel_rfl)) (by unfold Func.isWrapper; first | (rw [if_pos (by decide +kernel)]; kernel_rfl) | (rw [if_neg (by decide +kernel)]; exact ⟨rfl, rfl⟩))
    (fun os started H enc _ => lifted os started H enc)

theorem proved : Rows.TimerFirstSaid := over
#print axioms proved
end Go.Proofs.Ytdkjcadffhnjgaa.timerFirst
