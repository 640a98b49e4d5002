/-
  TimerComes returns true for every input, and its arguments read behind the call as they read before. No condition beyond the given row.
-/
import Derived.Test.YtdkjcadffhnjgaaRows
import Derived.WalkKit
import Derived.ProofKit
import Derived.OpenShut
import Derived.ShutString
import Derived.ChangeOld
import Derived.Below
import Derived.Test.YtdkjcadffhnjgaaV20
import Derived.Test.YtdkjcadffhnjgaaV21
import Derived.Test.YtdkjcadffhnjgaaTCM
namespace Go.Proofs.Ytdkjcadffhnjgaa.timerComes
open Go.ChangeShapes Go.WideShapes Go.ChangeAt Go.RowKit Go.V
set_option linter.unusedVariables false

theorem own : ownKnob Try.prog.godebug = none := by kernel_rfl
theorem laidOut : laidOutB Try.prog = true := by kernel_rfl
theorem sh3 : shOf Try.prog 12 3 = some [.int .i64] := by kernel_rfl
theorem sh9 : shOf Try.prog 12 9 = some [.str] := by kernel_rfl
theorem sh31 : shOf Try.prog 12 31 = some [.sl [.int .i64, .str, .int .i64]] := by kernel_rfl

theorem walk (c0 : PV) (f0 : Fits (.sl [.int .i64, .str, .int .i64]) c0) (c1 : PV) (f1 : Fits (.str) c1) (c2 : PV) (f2 : Fits (.int .i64) c2) (c3 : PV) (f3 : Fits (.sl [.int .i64, .str, .int .i64]) c3) : T Try.prog 5 [c0, c1, c2, c3] [] (fun r _ => r = .bool true) := by
  have acts : ∀ c : PV, Fits (.sl [.int .i64, .str, .int .i64]) c → ∃ es, c = .sl es ∧ es.length ≤ 9223372036854775807 ∧ ∀ e, e ∈ es → IsAct e := by
    intro c f
    cases f with
    | sl _ es hl h1 h2 =>
      refine ⟨es, rfl, by unfold maxLen at hl; omega, fun e he => ?_⟩
      have hlen := h1 e he
      match e, hlen with
      | [x, y, z], _ =>
        have fx := h2 _ 0 _ _ he rfl rfl
        have fy := h2 _ 1 _ _ he rfl rfl
        have fz := h2 _ 2 _ _ he rfl rfl
        cases fx
        cases fy
        cases fz with
        | int k n hw => exact ⟨_, _, _, rfl, wf_i64_le hw⟩
  obtain ⟨es, rfl, hl, ha⟩ := acts c0 f0
  obtain ⟨es3, rfl, hl3, ha3⟩ := acts c3 f3
  cases f1
  cases f2 with
  | int k n hw => exact tComes ha hl ha3 hl3 (wf_i64_le hw) (fun _ => rfl)

set_option maxRecDepth 100000 in
theorem lifted (os : Os) (started : os.Started) (H : Type) (enc : TypeId × Value → H) :
    ReturnsInHanded {} Try.checked os 5 .any (Rows.timerComesSpec.pre6 enc Try.prog Try.f5 Rows.timerComesRow.domain false) (Rows.timerComesSpec.post enc Try.prog Try.f5 false true false false) := by
  refine returnsInHanded_of_change (C := Try.checked) own started (by kernel_rfl) Try.func5
    (ChangeSpec.witness6 (enc := enc) (C := Try.checked) false ⟨#[], #[.slice none 0 0, .string ⟨#[]⟩, .int .i64 0, .slice none 0 0], []⟩ 8 (by kernel_rfl) (by kernel_rfl) (by kernel_rfl) (by kernel_rfl)) ?_
  intro W base args ds gs before hval0 hW hcnd _
  have hval : ∀ (j : Nat) t v, Try.f5.params[j]? = some t → args[j]? = some v → Value.okWide Try.prog W .any base t v := hval0
  have hW' := hW
  obtain ⟨p, q, hA0, hV, rfl, hfz, hnd⟩ := hW
  have hA : DataW.TrodAll enc Try.prog W 0 (fun _ => true) true Try.f5.params.toList args.toList ds p := hA0
  rw [Try.params5] at hA hval
  obtain ⟨v0, vs0, d0, ds0, p0, q0, hargs, rfl, rfl, h0, r0⟩ := trodAll_cons hA
  obtain ⟨v1, vs1, d1, ds1, p1, q1, rfl, rfl, rfl, h1, r1⟩ := trodAll_cons r0
  obtain ⟨v2, vs2, d2, ds2, p2, q2, rfl, rfl, rfl, h2, r2⟩ := trodAll_cons r1
  obtain ⟨v3, vs3, d3, ds3, p3, q3, rfl, rfl, rfl, h3, r3⟩ := trodAll_cons r2
  obtain ⟨rfl, rfl, rfl⟩ := trodAll_nil r3
  obtain rfl : args = #[v0, v1, v2, v3] := by cases args; simp_all
  obtain ⟨rfl, rfl⟩ := trodVars_none hV
  have lt0 : ∀ x ∈ p0, x.block < W.heap.size := by obtain ⟨m, hm⟩ := h0; exact DataW.trod_lt m _ _ _ hm
  obtain ⟨a0, len0, cap0, rfl⟩ := okWide_slice Try.underlying31 (hval 0 31 v0 rfl rfl)
  obtain ⟨c0, f0, b0⟩ := read_one (β := fun _ => none) sh31 h0 rfl
  have lt1 : ∀ x ∈ p1, x.block < W.heap.size := by obtain ⟨m, hm⟩ := h1; exact DataW.trod_lt m _ _ _ hm
  obtain ⟨a1, rfl⟩ := okWide_string Try.underlying9 (hval 1 9 v1 rfl rfl)
  obtain ⟨c1, f1, b1⟩ := read_one (β := fun _ => none) sh9 h1 rfl
  have lt2 : ∀ x ∈ p2, x.block < W.heap.size := by obtain ⟨m, hm⟩ := h2; exact DataW.trod_lt m _ _ _ hm
  obtain ⟨a2, rfl⟩ := okWide_int Try.underlying3 (hval 2 3 v2 rfl rfl)
  obtain ⟨c2, f2, b2⟩ := read_one (β := fun _ => none) sh3 h2 rfl
  have lt3 : ∀ x ∈ p3, x.block < W.heap.size := by obtain ⟨m, hm⟩ := h3; exact DataW.trod_lt m _ _ _ hm
  obtain ⟨a3, len3, cap3, rfl⟩ := okWide_slice Try.underlying31 (hval 3 31 v3 rfl rfl)
  obtain ⟨c3, f3, b3⟩ := read_one (β := fun _ => none) sh31 h3 rfl
  clear hA0 hval0
  refine (below_of_T (walk c0 f0 c1 f1 c2 f2 c3 f3) rfl ?_).mono fun e W' ⟨he, bel⟩ => ?_
  · intro i c v h1 h2
    match i, h1, h2 with
    | 0, h1, h2 => cases h1; cases h2; exact b0
    | 1, h1, h2 => cases h1; cases h2; exact b1
    | 2, h1, h2 => cases h1; cases h2; exact b2
    | 3, h1, h2 => cases h1; cases h2; exact b3
    | n + 4, h1, h2 => simp at h1
  subst he
  exact ⟨_, rfl, _, _, _, [], _, [], hW', trodAll_mk1 (shut_bool Try.underlying4 _), (trodAll_cons_mk (Below.trod laidOut (by kernel_rfl) (of_decide_eq_true (by kernel_rfl)) h0 bel lt0) (trodAll_cons_mk (Below.trod laidOut (by kernel_rfl) (of_decide_eq_true (by kernel_rfl)) h1 bel lt1) (trodAll_cons_mk (Below.trod laidOut (by kernel_rfl) (of_decide_eq_true (by kernel_rfl)) h2 bel lt2) (trodAll_cons_mk (Below.trod laidOut (by kernel_rfl) (of_decide_eq_true (by kernel_rfl)) h3 bel lt3) trodAll_mk0)))), rfl, bel.frame _, fun h => by cases h⟩

theorem over : Rows.timerComesRow.holds Try.pinned (OpenSpec.ofChange Rows.timerComesSpec) :=
  OpenClaim.holds_of_wide 5 Try.f5 rfl rfl rfl rfl rfl rfl rfl ⟨rfl, rfl, rfl, rfl, rfl⟩ rfl rfl rfl rfl rfl (by kernel_rfl) Try.func5 (by kernel_rfl)
    (of_decide_eq_true (by kernel_rfl)) (by unfold Func.isWrapper; first | (rw [if_pos (by decide +kernel)]; kernel_rfl) | (rw [if_neg (by decide +kernel)]; exact ⟨rfl, rfl⟩))
    (fun os started H enc _ => lifted os started H enc)

theorem proved : Rows.TimerComesSaid := over
#print axioms proved
end Go.Proofs.Ytdkjcadffhnjgaa.timerComes
