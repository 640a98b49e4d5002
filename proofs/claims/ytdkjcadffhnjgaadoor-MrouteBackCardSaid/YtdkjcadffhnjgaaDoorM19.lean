/- mroute.Leaf, Compare; few. -/
import Derived.Test.YtdkjcadffhnjgaaDoorM18
namespace Go.Proofs.YtdkjcadffhnjgaaDoor
open Go Go.V
set_option maxRecDepth 10000
attribute [local irreducible] vBuild vCallV
set_option maxHeartbeats 1000000 in
theorem uFew {m : Mr} (h : okM m) : U Tryd.prog 29 [.agg (mrc m)] (.bool (decide (m.key.length ≤ 4096))) := by
  intro σ Post hk
  have sc := mrc_sc (m := m)
  have ln := mrc_len h
  have c6 := mc_key h
  refine T29 fun hB hA => ?_
  have e : decide ((m.key.length : Int) ≤ 4096) = decide (m.key.length ≤ 4096) := by congr 1; simp; omega
  rw [← e] at hk
  refine W ?_
  exact hk
/-- The cells of a leaf, step by step. -/
theorem lf_1 (k : Int) (key : List UInt8) : splice [.int .i64 k, .int .u8 0, .int .u8 0, .int .u8 0, .int .u8 0, .int .u8 0, .int .u8 0, .int .u8 0, .int .u8 0, .int .i64 0, .int .i64 0, .int .u8 0, .int .u8 0, .int .u8 0, .int .u8 0, .int .u8 0, .int .u8 0, .int .u8 0, .int .u8 0, .int .u8 0, .int .u8 0, .int .u8 0, .int .u8 0, .int .u8 0, .int .u8 0, .int .u8 0, .int .u8 0, .int .i64 0, .int .u8 0, .int .u8 0, .int .u8 0, .int .u8 0, .int .u8 0, .int .u8 0, .int .u8 0, .int .u8 0, .int .u8 0, .int .u8 0, .int .u8 0, .int .u8 0, .int .u8 0, .int .u8 0, .int .u8 0, .int .u8 0, .int .i64 0, .int .u8 0, .int .u8 0, .int .u8 0, .int .u8 0, .int .u8 0, .int .u8 0, .int .u8 0, .int .u8 0, .int .u8 0, .int .u8 0, .int .u8 0, .int .u8 0, .int .u8 0, .int .u8 0, .int .u8 0, .int .u8 0, .str []] 61 [.str key] = mrc { mr0 with k := k, key := key } := rfl
theorem lf_2 (k : Int) : splice [.int .i64 0, .int .u8 0, .int .u8 0, .int .u8 0, .int .u8 0, .int .u8 0, .int .u8 0, .int .u8 0, .int .u8 0, .int .i64 0, .int .i64 0, .int .u8 0, .int .u8 0, .int .u8 0, .int .u8 0, .int .u8 0, .int .u8 0, .int .u8 0, .int .u8 0, .int .u8 0, .int .u8 0, .int .u8 0, .int .u8 0, .int .u8 0, .int .u8 0, .int .u8 0, .int .u8 0, .int .i64 0, .int .u8 0, .int .u8 0, .int .u8 0, .int .u8 0, .int .u8 0, .int .u8 0, .int .u8 0, .int .u8 0, .int .u8 0, .int .u8 0, .int .u8 0, .int .u8 0, .int .u8 0, .int .u8 0, .int .u8 0, .int .u8 0, .int .i64 0, .int .u8 0, .int .u8 0, .int .u8 0, .int .u8 0, .int .u8 0, .int .u8 0, .int .u8 0, .int .u8 0, .int .u8 0, .int .u8 0, .int .u8 0, .int .u8 0, .int .u8 0, .int .u8 0, .int .u8 0, .int .u8 0, .str []] 0 [.int .i64 k] = [.int .i64 k, .int .u8 0, .int .u8 0, .int .u8 0, .int .u8 0, .int .u8 0, .int .u8 0, .int .u8 0, .int .u8 0, .int .i64 0, .int .i64 0, .int .u8 0, .int .u8 0, .int .u8 0, .int .u8 0, .int .u8 0, .int .u8 0, .int .u8 0, .int .u8 0, .int .u8 0, .int .u8 0, .int .u8 0, .int .u8 0, .int .u8 0, .int .u8 0, .int .u8 0, .int .u8 0, .int .i64 0, .int .u8 0, .int .u8 0, .int .u8 0, .int .u8 0, .int .u8 0, .int .u8 0, .int .u8 0, .int .u8 0, .int .u8 0, .int .u8 0, .int .u8 0, .int .u8 0, .int .u8 0, .int .u8 0, .int .u8 0, .int .u8 0, .int .i64 0, .int .u8 0, .int .u8 0, .int .u8 0, .int .u8 0, .int .u8 0, .int .u8 0, .int .u8 0, .int .u8 0, .int .u8 0, .int .u8 0, .int .u8 0, .int .u8 0, .int .u8 0, .int .u8 0, .int .u8 0, .int .u8 0, .str []] := rfl
theorem lf_3 {k : Int} {key : List UInt8} {a : Ad} (ha : okD a) : splice (mrc { mr0 with k := k, key := key }) 44 (adc a) = mrc ⟨k, z8, 0, ad0, ad0, a, key⟩ := ms_f (m := { mr0 with k := k, key := key }) ⟨rfl, rfl, rfl, rfl⟩ ha
theorem lf_4 {k : Int} : splice [.int .i64 0, .int .u8 0, .int .u8 0, .int .u8 0, .int .u8 0, .int .u8 0, .int .u8 0, .int .u8 0, .int .u8 0, .int .i64 0, .int .i64 0, .int .u8 0, .int .u8 0, .int .u8 0, .int .u8 0, .int .u8 0, .int .u8 0, .int .u8 0, .int .u8 0, .int .u8 0, .int .u8 0, .int .u8 0, .int .u8 0, .int .u8 0, .int .u8 0, .int .u8 0, .int .u8 0, .int .i64 0, .int .u8 0, .int .u8 0, .int .u8 0, .int .u8 0, .int .u8 0, .int .u8 0, .int .u8 0, .int .u8 0, .int .u8 0, .int .u8 0, .int .u8 0, .int .u8 0, .int .u8 0, .int .u8 0, .int .u8 0, .int .u8 0, .int .i64 0, .int .u8 0, .int .u8 0, .int .u8 0, .int .u8 0, .int .u8 0, .int .u8 0, .int .u8 0, .int .u8 0, .int .u8 0, .int .u8 0, .int .u8 0, .int .u8 0, .int .u8 0, .int .u8 0, .int .u8 0, .int .u8 0, .str []] 0 [.int .i64 k] = mrc { mr0 with k := k } := rfl
def leafF (m : Mr) (a : Ad) : Mr × Int := if rightF m = true ∧ rightF (leafM m a) = true then (leafM m a, 0) else (mr0, 1)
theorem leafF_ok {m : Mr} {a : Ad} (ha : okD a) : okM (leafF m a).1 := by
  unfold leafF; split
  · exact leafM_ok ha
  · exact mr0_ok
set_option maxHeartbeats 8000000 in
theorem uLeaf {m : Mr} {a : Ad} (h : okM m) (ha : okD a) (hkl : m.key.length ≤ 140737488355328) : U Tryd.prog 30 [.agg (mrc m), .agg (adc a)] (.tup [.agg (mrc (leafF m a).1), .int .i64 (leafF m a).2]) := by
  intro σ Post hk
  have sc := mrc_sc (m := m)
  have ln := mrc_len h
  have c0 := mrc_all h
  have sa := adc_sc (a := a)
  have la := adc_len ha
  have ca := adc_all ha
  have w1 := mz_zz
  have w2 := mz_zy
  have w3 := mz_all
  have w4 := mz_len
  have w5 := mz_sc
  unfold leafF at hk
  refine T30 fun hB hA => ?_
  cases hr : rightF m with
  | false =>
    rw [if_neg (by rw [hr]; simp)] at hk
    have lo : okM ⟨4, z8, 0, ad0, ad0, a, []⟩ := ⟨rfl, rfl, rfl, ha⟩
    have x1 := lf_2 4
    have x2 := lf_1 4 []
    have x3 := lf_3 (k := 4) (key := []) ha
    have x4 := mz_st lo
    have x5 := mrc_len lo
    have x6 := mrc_sc (m := ⟨4, z8, 0, ad0, ad0, a, []⟩)
    have x7 := mrc_all lo
    refine W ?_
    refine cu (uMBytes0 h hkl hr) ?_
    refine W ?_
    exact hk
  | true =>
    have lo := leafM_ok (m := m) ha
    have x1 := lf_2 4
    have x2 := lf_1 4 (mbytes m)
    have xB := mrc_len (m := { mr0 with k := 4, key := mbytes m }) ⟨rfl, rfl, rfl, rfl⟩
    have x3 := lf_3 (k := 4) (key := mbytes m) ha
    have e0 : (⟨4, z8, 0, ad0, ad0, a, mbytes m⟩ : Mr) = leafM m a := rfl
    rw [e0] at x3
    have x4 := mz_st lo
    have x5 := mrc_len lo
    have x6 := mrc_sc (m := leafM m a)
    have x7 := mrc_all lo
    have x8 : splice mz 0 (mrc (leafM m a)) = mrc (leafM m a) := ms_all lo
    have pl := parts_len h (rightM hr)
    have ml := mbytes_len (m := m)
    have lk : (leafM m a).key.length ≤ 140737488355328 := by show (mbytes m).length ≤ _; omega
    refine W ?_
    refine cu (uMBytes h hkl hr) ?_
    refine W ?_
    refine cu (uRightM lo lk) ?_
    cases hr2 : rightF (leafM m a) with
    | false =>
      rw [if_neg (by rw [hr2]; simp)] at hk
      refine W ?_
      exact hk
    | true =>
      rw [if_pos ⟨hr, hr2⟩] at hk
      refine W ?_
      exact hk
/-- mroute.Compare. -/
def bytesF (m : Mr) : List UInt8 := if rightF m = true then mbytes m else []
theorem uMBytesF {m : Mr} (h : okM m) (hkl : m.key.length ≤ 140737488355328) : U Tryd.prog 31 [.agg (mrc m)] (.tup [.sl (bsl (bytesF m)), .int .i64 (if rightF m = true then 0 else 1)]) := by
  unfold bytesF
  cases hr : rightF m with
  | false =>
    have := uMBytes0 h hkl hr
    simpa using this
  | true =>
    have := uMBytes h hkl hr
    simpa using this
end Go.Proofs.YtdkjcadffhnjgaaDoor
