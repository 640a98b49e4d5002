/- mroute.sized. -/
import Derived.Test.YtdkjcadffhnjgaaDoorM11
namespace Go.Proofs.YtdkjcadffhnjgaaDoor
open Go Go.V
set_option maxRecDepth 10000
attribute [local irreducible] vBuild vCallV vBuildSlice
def fitA (a : Ad) (s : Int) : Bool := decide (a.s = 0) || decide (a.s = s)
def sizeOk (m : Mr) (s : Int) : Bool := fitA m.s s && fitA m.g s
def sizedG (m : Mr) (s : Int) (e : Int) : Bool := sizeOk m s && (decide (m.k ≠ 4) || decide (e = 0))
set_option maxHeartbeats 4000000 in
theorem uSizedG {m : Mr} {s : Int} {t : Mr × Int} (h : okM m) (hkl : m.key.length ≤ 140737488355328) (ht : okM t.1) (hP : m.k = 4 → U Tryd.prog 35 [.sl (bsl m.key), .int .i64 s] (.tup [.agg (mrc t.1), .int .i64 t.2])) :
    U Tryd.prog 75 [.agg (mrc m), .int .i64 s] (.bool (sizedG m s t.2)) := by
  intro σ Post hk
  have sc := mrc_sc (m := m)
  have ln := mrc_len h
  have c0 := mrc_all h
  have c3 := mc_s h
  have c4 := mc_g h
  have c6 := mc_key h
  have c7 : cut (mrc m) 0 none = some (.int .i64 m.k) := rfl
  have l1 := adc_len h.s
  have l2 := adc_len h.g
  have s1' := adc_sc (a := m.s)
  have s2' := adc_sc (a := m.g)
  have d1 := ad_set h.s
  have d2 := ad_set h.g
  have d3 := adc_all h.s
  have d4 := adc_all h.g
  have d5 := adc_s (a := m.s)
  have d6 := adc_s (a := m.g)
  have w6 := mz_st ht
  have w8 := mrc_len ht
  have w9 := mrc_sc (m := t.1)
  have ln2 : ([adc m.s, adc m.g] : List (List PV)).length = 2 := rfl
  refine T75 fun hB hA => ?_
  refine W ?_
  refine lp (fun j e h => e 1 = .int .i64 s ∧ (∃ g, e 2 = .ptr (σ.length + 0) g 0 ∧ g = 1) ∧ (∃ g, e 13 = .row (σ.length + 1) g ∧ g = 1) ∧ e 14 = .int .i64 2 ∧ (j = 2 ∧ e 15 = .int .i64 0 ∨ j = 1 ∧ e 15 = .int .i64 1 ∧ fitA m.s s = true ∨ j = 0 ∧ e 15 = .int .i64 2 ∧ fitA m.s s = true ∧ fitA m.g s = true) ∧
    ∃ g2 b2 g3 b3 g4 b4, h = σ ++ [(1, .box (mrc m) false), (1, .row 17 [adc m.s, adc m.g] false), (g2, b2), (g3, b3), (g4, b4)]) 2 ⟨rfl, ⟨1, rfl, rfl⟩, ⟨1, rfl, rfl⟩, rfl, .inl ⟨rfl, rfl⟩, _, _, _, _, _, _, rfl⟩ ?_
  intro j u s' hI
  revert hI
  generalize mix _ u _ = E
  rintro ⟨e1, ⟨_, e2, rfl⟩, ⟨_, e13, rfl⟩, e14, hj, g2, b2, g3, b3, g4, b4, rfl⟩
  clear u
  unfold sizedG sizeOk at hk
  rcases hj with ⟨rfl, e15⟩ | ⟨rfl, e15, hA0⟩ | ⟨rfl, e15, hA0, hB0⟩
  · by_cases z0 : m.s.s = 0
    · have hf : fitA m.s s = true := by unfold fitA; simp [z0]
      refine W ?_
      exact ⟨1, by omega, e1, ⟨1, e2, rfl⟩, ⟨1, e13, rfl⟩, e14, .inr (.inl ⟨rfl, rfl, hf⟩), _, _, _, _, _, _, rfl⟩
    · by_cases z1 : m.s.s = s
      · have hf : fitA m.s s = true := by unfold fitA; simp [z1]
        refine W ?_
        exact ⟨1, by omega, e1, ⟨1, e2, rfl⟩, ⟨1, e13, rfl⟩, e14, .inr (.inl ⟨rfl, rfl, hf⟩), _, _, _, _, _, _, rfl⟩
      · have hf : fitA m.s s = false := by unfold fitA; simp [z0, z1]
        rw [hf, Bool.false_and, Bool.false_and] at hk
        refine W ?_
        exact hk
  · rw [hA0, Bool.true_and] at hk
    by_cases z0 : m.g.s = 0
    · have hf : fitA m.g s = true := by unfold fitA; simp [z0]
      refine W ?_
      exact ⟨0, by omega, e1, ⟨1, e2, rfl⟩, ⟨1, e13, rfl⟩, e14, .inr (.inr ⟨rfl, rfl, hA0, hf⟩), _, _, _, _, _, _, rfl⟩
    · by_cases z1 : m.g.s = s
      · have hf : fitA m.g s = true := by unfold fitA; simp [z1]
        refine W ?_
        exact ⟨0, by omega, e1, ⟨1, e2, rfl⟩, ⟨1, e13, rfl⟩, e14, .inr (.inr ⟨rfl, rfl, hA0, hf⟩), _, _, _, _, _, _, rfl⟩
      · have hf : fitA m.g s = false := by unfold fitA; simp [z0, z1]
        rw [hf, Bool.false_and] at hk
        refine W ?_
        exact hk
  · rw [hA0, hB0, Bool.true_and, Bool.true_and] at hk
    by_cases k4 : m.k = 4
    · rw [decide_eq_false (by simpa using k4), Bool.false_or] at hk
      have p := hP k4
      have eb : bsl m.key = bytesEs m.key := rfl
      rw [eb] at p
      refine W ?_
      refine cu p ?_
      by_cases hz : t.2 = 0
      · rw [decide_eq_true hz] at hk
        refine W ?_
        exact hk
      · rw [decide_eq_false hz] at hk
        refine W ?_
        exact hk
    · rw [decide_eq_true k4, Bool.true_or] at hk
      refine W ?_
      exact hk
end Go.Proofs.YtdkjcadffhnjgaaDoor
