/- addr.PrefixText, uroute.Right. -/
import Derived.Test.YtdkjcadffhnjgaaDoorG9
namespace Go.Proofs.YtdkjcadffhnjgaaDoor
open Go Go.V
set_option maxRecDepth 10000
def ptext (s : Int) (b : List UInt8) (k : Int) : List UInt8 := if okP s b k = true then atext s b ++ [47] ++ Lib.itoa k else []
theorem ptext_nil {s k : Int} {b : List UInt8} : ptext s b k = [] ↔ okP s b k = false := by
  unfold ptext
  cases h : okP s b k
  · simp
  · simp
theorem six_le {b : List UInt8} (hb : b.length = 16) : (six b).length ≤ 3000000 := by
  have hn8 : (nums b).length = 8 := by rw [nums_len, hb]
  have hlt := nums_lt b
  unfold six
  dsimp only
  split
  · have := writ_len hlt (by omega); omega
  · have h1 := writ_len (l := (nums b).take (gapL (nums b) 0 (0, 0)).1) (fun n hn => hlt n (List.mem_of_mem_take hn)) (by simp; omega)
    have h2 := writ_len (l := (nums b).drop ((gapL (nums b) 0 (0, 0)).1 + (gapL (nums b) 0 (0, 0)).2)) (fun n hn => hlt n (List.mem_of_mem_drop hn)) (by simp; omega)
    simp only [List.length_append, List.length_cons, List.length_nil]; omega
theorem atext_le {s : Int} {b : List UInt8} (hb : b.length = 16) : (atext s b).length ≤ 3000000 := by
  unfold atext
  split
  · split
    · have hjl := join_le (ss := (b.take 4).map fun x => itxt x.toNat) (sep := [46]) (k := 256) (fun s hs => by
        obtain ⟨x, _, rfl⟩ := List.mem_map.1 hs
        have := itxt_le x.toNat; have := x.toNat_lt; omega)
      have hln : ((b.take 4).map fun x => itxt x.toNat).length = 4 := by simp [hb]
      rw [hln] at hjl
      simp only [List.length_cons, List.length_nil] at hjl; omega
    · split
      · exact six_le hb
      · simp
  · simp
theorem uPrefixText {s k : Int} {b : List UInt8} (hb : b.length = 16) : U Tryd.prog 54 [.agg (pfx s b k)] (.str (ptext s b k)) := by
  intro σ Post hk
  have hs := pfx_sc s k b
  have hl := pfx_len (s := s) (k := k) (b := b)
  have hl1 := adr_len s b
  have c1 : cut (pfx s b k) 0 (some 17) = some (.agg (adr s b)) := by
    simp only [cut]; rw [if_pos (by omega), List.drop_zero, pfx, List.take_left' (by omega)]
  have c2 : cut (pfx s b k) 17 none = some (.int .i64 k) := by
    simp only [cut]; rw [pfx, List.getElem?_append_right (by omega), hl1, hb]; rfl
  have c3 : cut (pfx s b k) 0 (some 18) = some (.agg (pfx s b k)) := by
    simp only [cut]; rw [if_pos (by omega), List.drop_zero, List.take_of_length_le (by omega)]
  unfold ptext at hk
  refine T54 fun hB hA => ?_
  refine W ?_
  refine cu (uRightP hb) ?_
  cases ho : okP s b k with
  | false =>
    rw [if_neg (by simp [ho])] at hk
    refine W ?_
    exact hk
  | true =>
    rw [if_pos ho] at hk
    have hal := atext_le (s := s) hb
    have hk2 : 0 ≤ k ∧ k ≤ 8 * s ∧ okA s b = true := by
      unfold okP at ho; simp only [Bool.and_eq_true, decide_eq_true_eq] at ho; exact ⟨ho.1.1.2, ho.1.2, ho.1.1.1.1⟩
    have hs16 : s ≤ 16 := by have h := hk2.2.2; unfold okA at h; simp at h; omega
    have hil : (Lib.itoa k).length ≤ 1000 := by
      have := itxt_le k.toNat
      unfold itxt at this
      rw [Int.toNat_of_nonneg hk2.1] at this; omega
    refine W ?_
    refine s1 (uText hb) ?_
    refine W ?_
    refine s1 (uItoa (n := k) (by omega) (by omega)) ?_
    refine W ?_
    exact hk
end Go.Proofs.YtdkjcadffhnjgaaDoor
