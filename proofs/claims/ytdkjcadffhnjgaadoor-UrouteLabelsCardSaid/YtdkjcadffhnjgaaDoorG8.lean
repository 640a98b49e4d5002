/- addr.gap, addr.written. -/
import Derived.Test.YtdkjcadffhnjgaaDoorG7
namespace Go.Proofs.YtdkjcadffhnjgaaDoor
open Go Go.V
set_option maxRecDepth 10000
theorem uGap {l : List Nat} (hl : l.length = 8) : U Tryd.prog 102 [.agg (inc l)] (.tup [.int .i64 (gapL l 0 (0, 0)).1, .int .i64 (gapL l 0 (0, 0)).2]) := by
  intro σ Post hk
  refine T102 fun hB hA => ?_
  have hs := inc_sc l
  have hlc : (inc l).length = 8 := by rw [inc_len, hl]
  refine W ?_
  refine lp (fun j e h => ∃ i f m : Nat, i + j = 8 ∧ e 6 = .int .i64 i ∧ e 2 = .int .i64 f ∧ e 3 = .int .i64 m ∧ m ≤ 8 ∧ gapL (l.drop i) i (f, m) = gapL l 0 (0, 0) ∧ h = σ ++ [(1, .box (inc l) false)]) 8 ⟨0, 0, 0, rfl, rfl, rfl, rfl, by omega, rfl, rfl⟩ ?_
  rintro j u _ ⟨i, f, m, hi, e6, e2, e3, hm, hg, rfl⟩
  by_cases h5 : i < 8
  · have hz := zr_le (l.drop i)
    rw [List.length_drop] at hz
    refine W ?_
    refine lp (fun j e h => ∃ n : Nat, n + j = 8 ∧ e 5 = .int .i64 n ∧ n ≤ zr (l.drop i) ∧ h = σ ++ [(1, .box (inc l) false)]) 8 ⟨0, rfl, rfl, by omega, rfl⟩ ?_
    rintro j2 u2 _ ⟨n, hn, e5, hnz, rfl⟩
    have fin : n = zr (l.drop i) → ∀ f' m', (f', m') = (if m < n then (i, n) else (f, m)) → gapL (l.drop (i + 1)) (i + 1) (f', m') = gapL l 0 (0, 0) := by
      intro hnz f' m' hfm
      have h6 : l.drop i = l[i] :: l.drop (i + 1) := List.drop_eq_getElem_cons (by omega)
      rw [← hg]
      rw [h6, gapL, ← h6, ← hnz, hfm]
    by_cases h7 : i + n < 8
    · obtain ⟨x, hx⟩ : ∃ x, l[i + n]? = some x := ⟨_, List.getElem?_eq_getElem (by omega)⟩
      have c1 : cut (inc l) ((i : Int) + (n : Int)).toNat none = some (.int .i64 x) := cut_inc (by rw [show ((i : Int) + (n : Int)).toNat = i + n by omega]; exact hx)
      have hx2 : (l.drop i)[n]? = some x := by rw [List.getElem?_drop]; exact hx
      by_cases h0 : x = 0
      · have h8 : n < zr (l.drop i) := by
          rcases Nat.lt_or_eq_of_le hnz with h | h
          · exact h
          · rw [h] at hx2; exact absurd h0 (zr_end hx2)
        refine W ?_
        exact ⟨j2 - 1, by omega, n + 1, by omega, rfl, by omega, rfl⟩
      · have h8 : n = zr (l.drop i) := by
          rcases Nat.lt_or_eq_of_le hnz with h | h
          · have := zr_at h; rw [hx2] at this; exact absurd (Option.some.inj this) h0
          · exact h
        by_cases h9 : m < n
        · refine W ?_
          exact ⟨j - 1, by omega, i + 1, i, n, by omega, rfl, rfl, rfl, by omega, fin h8 _ _ (by rw [if_pos h9]), rfl⟩
        · refine W ?_
          exact ⟨j - 1, by omega, i + 1, f, m, by omega, rfl, e2, e3, by omega, fin h8 _ _ (by rw [if_neg h9]), rfl⟩
    · have h8 : n = zr (l.drop i) := by omega
      by_cases h9 : m < n
      · refine W ?_
        exact ⟨j - 1, by omega, i + 1, i, n, by omega, rfl, rfl, rfl, by omega, fin h8 _ _ (by rw [if_pos h9]), rfl⟩
      · refine W ?_
        exact ⟨j - 1, by omega, i + 1, f, m, by omega, rfl, e2, e3, by omega, fin h8 _ _ (by rw [if_neg h9]), rfl⟩
  · have e8 : i = 8 := by omega
    subst e8
    rw [List.drop_of_length_le (by omega)] at hg
    have h1 : (gapL l 0 (0, 0)).1 = f := by rw [← hg]; rfl
    have h2 : (gapL l 0 (0, 0)).2 = m := by rw [← hg]; rfl
    rw [h1, h2] at hk
    refine W ?_
    exact hk
end Go.Proofs.YtdkjcadffhnjgaaDoor
