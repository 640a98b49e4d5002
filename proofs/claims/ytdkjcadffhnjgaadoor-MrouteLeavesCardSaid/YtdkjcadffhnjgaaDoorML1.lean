/- The law MrouteLeaves as a triple. -/
import Derived.Test.YtdkjcadffhnjgaaDoorM19
namespace Go.Proofs.YtdkjcadffhnjgaaDoor
open Go Go.V
set_option maxRecDepth 10000
attribute [local irreducible] vBuild vCallV
set_option maxHeartbeats 16000000 in
theorem tLeaves {m : Mr} {a : Ad} (h : okM m) (ha : okD a) (sm : U Tryd.prog 28 [] (.bool true)) : U Tryd.prog 8 [.agg (mrc m), .agg (adc a)] (.bool true) := by
  intro σ Post hk
  have sc := mrc_sc (m := m)
  have ln := mrc_len h
  have c0 := mrc_all h
  have c7 : cut (mrc m) 0 none = some (.int .i64 m.k) := rfl
  have sa := adc_sc (a := a)
  have la := adc_len ha
  have ca := adc_all ha
  have cs := adc_s (a := a)
  have w1 := mz_zz
  have w2 := mz_zy
  have w3 := mz_all
  have w4 := mz_len
  have w5 := mz_sc
  have q0 := eqC_mr mr0_ok mr0_ok
  rw [show (mr0 == mr0) = true by simp] at q0
  have q1 := eqC_ad ha ha
  rw [show (a == a) = true by simp] at q1
  refine T8 fun hB hA => ?_
  refine W ?_
  refine cu sm ?_
  refine W ?_
  refine cu (uFew h) ?_
  by_cases hf : m.key.length ≤ 4096
  · rw [decide_eq_true hf]
    have lo := leafM_ok (m := m) ha
    have x4 := mz_st lo
    have x5 := mrc_len lo
    have x6 := mrc_sc (m := leafM m a)
    have x7 := mrc_all lo
    have x8 : splice mz 0 (mrc (leafM m a)) = mrc (leafM m a) := ms_all lo
    have x9 := mc_key lo
    have xA := mc_f lo
    have eK : (leafM m a).key = mbytes m := rfl
    have eF : (leafM m a).f = a := rfl
    rw [eK] at x9
    rw [eF] at xA
    have oi : okM (intraM a) := ⟨rfl, rfl, rfl, ha⟩
    have y1 := lf_4 (k := 1)
    have yB := mrc_len (m := { mr0 with k := 1 }) ⟨rfl, rfl, rfl, rfl⟩
    have y3 := lf_3 (k := 1) (key := []) ha
    have e0 : (⟨1, z8, 0, ad0, ad0, a, []⟩ : Mr) = intraM a := rfl
    have e1 : ({ mr0 with k := 1 } : Mr) = { mr0 with k := 1, key := [] } := rfl
    rw [e0] at y3
    have uL := uLeaf h ha (by omega)
    unfold leafF at uL
    cases hr : rightF m with
    | false =>
      rw [if_neg (by rw [hr]; simp)] at uL
      refine W ?_
      refine cu uL ?_
      refine W ?_
      refine cu (uMBytes0 h (by omega) hr) ?_
      refine W ?_
      exact hk
    | true =>
      have pl := parts_len h (rightM hr)
      have ml := mbytes_len (m := m)
      have lk : (leafM m a).key.length ≤ 140737488355328 := by show (mbytes m).length ≤ _; omega
      have kk := (rightM hr).p.kk
      cases hr2 : rightF (leafM m a) with
      | true =>
        rw [if_pos ⟨hr, hr2⟩] at uL
        have hk23 := leaf_kind h hr hr2
        refine W ?_
        refine cu uL ?_
        refine W ?_
        refine cu (uMBytes h (by omega) hr) ?_
        refine W ?_
        refine cu (uRightM lo lk) ?_
        rw [hr2]
        rcases hk23 with h2 | h3
        · refine W ?_
          exact hk
        · refine W ?_
          exact hk
      | false =>
        rw [if_neg (by rw [hr2]; simp)] at uL
        refine W ?_
        refine cu uL ?_
        refine W ?_
        refine cu (uMBytes h (by omega) hr) ?_
        have fin : m.k = 2 ∨ m.k = 3 → rightF (intraM a) = false := fun hk2 => by
          rw [intra_right]
          rw [leaf_right, ansF_back h (rightM hr).p hk2, Bool.and_true] at hr2
          exact hr2
        have lk2 : (intraM a).key.length ≤ 140737488355328 := by show ([] : List UInt8).length ≤ _; simp
        by_cases h2 : m.k = 2
        · have hfin := fin (.inl h2)
          by_cases s4 : a.s = 4
          · refine W ?_
            refine cu (uRightM oi lk2) ?_
            rw [hfin]
            refine W ?_
            exact hk
          · by_cases s16 : a.s = 16
            · refine W ?_
              refine cu (uRightM oi lk2) ?_
              rw [hfin]
              refine W ?_
              exact hk
            · refine W ?_
              exact hk
        · by_cases h3 : m.k = 3
          · have hfin := fin (.inr h3)
            by_cases s4 : a.s = 4
            · refine W ?_
              refine cu (uRightM oi lk2) ?_
              rw [hfin]
              refine W ?_
              exact hk
            · by_cases s16 : a.s = 16
              · refine W ?_
                refine cu (uRightM oi lk2) ?_
                rw [hfin]
                refine W ?_
                exact hk
              · refine W ?_
                exact hk
          · refine W ?_
            exact hk
  · rw [decide_eq_false hf]
    refine W ?_
    exact hk
end Go.Proofs.YtdkjcadffhnjgaaDoor
