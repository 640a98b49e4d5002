/- uroute.Right, uroute.Bytes. -/
import Derived.Test.YtdkjcadffhnjgaaDoorG10
namespace Go.Proofs.YtdkjcadffhnjgaaDoor
open Go Go.V
set_option maxRecDepth 10000
/-- A route's cells. -/
def urc (rd : List UInt8) (s : Int) (b : List UInt8) (k a : Int) : List PV := u8c rd ++ (pfx s b k ++ [.int .i64 a])
instance (rd : List UInt8) (s k a : Int) (l : List UInt8) : PlL (urc rd s l k a) := by unfold urc; infer_instance
instance (rd : List UInt8) (s k a : Int) (l : List UInt8) : ClL (urc rd s l k a) := by unfold urc; infer_instance
theorem urc_sc (rd : List UInt8) (s k a : Int) (l : List UInt8) : (urc rd s l k a).all scalar = true := by
  rw [urc, List.all_append, List.all_append, u8c_sc, pfx_sc]; rfl
section
variable {rd b : List UInt8} {s k a : Int}
theorem urc_len (hr : rd.length = 8) (hb : b.length = 16) : (urc rd s b k a).length = 27 := by
  simp [urc, pfx_len, u8c_len, hr, hb]
theorem urc_all (hr : rd.length = 8) (hb : b.length = 16) : cut (urc rd s b k a) 0 (some 27) = some (.agg (urc rd s b k a)) := by
  have := urc_len (s := s) (k := k) (a := a) hr hb
  simp only [cut]; rw [if_pos (by omega), List.drop_zero, List.take_of_length_le (by omega)]
theorem urc_pfx (hr : rd.length = 8) (hb : b.length = 16) : cut (urc rd s b k a) 8 (some 18) = some (.agg (pfx s b k)) := by
  have := urc_len (s := s) (k := k) (a := a) hr hb
  have hp := pfx_len (s := s) (k := k) (b := b)
  simp only [cut]; rw [if_pos (by omega), urc, List.drop_left' (by rw [u8c_len, hr]), List.take_left' (by omega)]
theorem urc_rd (hr : rd.length = 8) (hb : b.length = 16) : cut (urc rd s b k a) 0 (some 8) = some (.agg (u8c rd)) := by
  have := urc_len (s := s) (k := k) (a := a) hr hb
  simp only [cut]; rw [if_pos (by omega), List.drop_zero, urc, List.take_left' (by rw [u8c_len, hr])]
theorem urc_adr (hr : rd.length = 8) (hb : b.length = 16) : cut (urc rd s b k a) 8 (some 17) = some (.agg (adr s b)) := by
  have := urc_len (s := s) (k := k) (a := a) hr hb
  have hp := adr_len s b
  simp only [cut]; rw [if_pos (by omega), urc, List.drop_left' (by rw [u8c_len, hr]), pfx, List.append_assoc, List.take_left' (by omega)]
theorem urc_k (hr : rd.length = 8) (hb : b.length = 16) : cut (urc rd s b k a) 25 none = some (.int .i64 k) := by
  have hp := adr_len s b
  simp only [cut]; rw [urc, pfx, List.getElem?_append_right (by rw [u8c_len]; omega), u8c_len, hr, List.append_assoc, List.getElem?_append_right (by omega), hp, hb]; rfl
theorem urc_a (hr : rd.length = 8) (hb : b.length = 16) : cut (urc rd s b k a) 26 none = some (.int .i64 a) := by
  have hp := pfx_len (s := s) (k := k) (b := b)
  simp only [cut]; rw [urc, List.getElem?_append_right (by rw [u8c_len]; omega), u8c_len, hr, List.getElem?_append_right (by omega), hp, hb]; rfl
theorem urc_vrd (hr : rd.length = 8) : VCut (urc rd s b k a) 0 8 (bsl rd) := ⟨by
  rw [List.drop_zero, urc, List.take_left' (by rw [u8c_len, hr])]; simp [u8c, bsl, Function.comp_def]⟩
theorem urc_vb (hr : rd.length = 8) (hb : b.length = 16) (w : Nat) (hw : w ≤ 16) : VCut (urc rd s b k a) 9 w (bsl (b.take w)) := ⟨by
  have h1 : (urc rd s b k a).drop 9 = u8c b ++ ([.int .i64 k] ++ [.int .i64 a]) := by
    rw [urc, show 9 = (u8c rd).length + 1 by rw [u8c_len, hr], ← List.drop_drop, List.drop_left, pfx, adr, List.append_assoc, List.cons_append, List.drop_succ_cons, List.drop_zero]
  rw [h1, List.take_append_of_le_length (by rw [u8c_len]; omega)]
  simp [u8c, bsl, List.map_take, Function.comp_def]⟩
/-- A route that is right. -/
def okU (s : Int) (b : List UInt8) (k a : Int) : Bool := okP s b k && decide (0 ≤ a) && decide (a ≤ 1048575)
theorem uRightU (hr : rd.length = 8) (hb : b.length = 16) : U Tryd.prog 19 [.agg (urc rd s b k a)] (.bool (okU s b k a)) := by
  intro σ Post hk
  have hs := urc_sc rd s k a b
  have c1 := urc_pfx (s := s) (k := k) (a := a) hr hb
  have c2 := urc_a (s := s) (k := k) (a := a) hr hb
  unfold okU at hk
  refine T19 fun hB hA => ?_
  refine W ?_
  refine cu (uPrefixText hb) ?_
  cases ho : okP s b k with
  | false =>
    have hne : sbin .neq (ptext s b k) [] = some (.bool false) := by
      rw [ptext_nil.2 ho]; rfl
    rw [ho] at hk
    refine W ?_
    exact hk
  | true =>
    have hne : sbin .neq (ptext s b k) [] = some (.bool true) := by
      have : ptext s b k ≠ [] := fun e => by have := ptext_nil.1 e; rw [ho] at this; cases this
      rw [sb_neq]; simp [this]
    rw [ho, Bool.true_and] at hk
    by_cases h0 : 0 ≤ a
    · by_cases h1 : a ≤ 1048575
      · rw [show (decide (0 ≤ a) && decide (a ≤ 1048575)) = true by simp [h0, h1]] at hk
        refine W ?_
        exact hk
      · rw [show (decide (0 ≤ a) && decide (a ≤ 1048575)) = false by simp [h1]] at hk
        refine W ?_
        exact hk
    · rw [show (decide (0 ≤ a) && decide (a ≤ 1048575)) = false by simp [h0]] at hk
      refine W ?_
      exact hk
/-- A route in bytes. -/
def ubytes (rd b : List UInt8) (k a : Int) : List UInt8 := UInt8.ofNat (88 + k).toNat :: (be (a.toNat * 16 + 1) 3 ++ rd ++ b.take ((k + 7) / 8).toNat)
theorem uBytesU (hr : rd.length = 8) (hb : b.length = 16) : (okU s b k a = true → U Tryd.prog 13 [.agg (urc rd s b k a)] (.tup [.sl (bsl (ubytes rd b k a)), .int .i64 0])) ∧ (okU s b k a = false → U Tryd.prog 13 [.agg (urc rd s b k a)] (.tup [.sl [], .int .i64 1])) := by
  have hs := urc_sc rd s k a b
  have c0 := urc_all (s := s) (k := k) (a := a) hr hb
  have c1 := urc_k (s := s) (k := k) (a := a) hr hb
  have c2 := urc_a (s := s) (k := k) (a := a) hr hb
  have hlen := urc_len (s := s) (k := k) (a := a) hr hb
  constructor
  · intro ho σ Post hk
    have hk2 : 0 ≤ k ∧ k ≤ 8 * s ∧ okA s b = true ∧ 0 ≤ a ∧ a ≤ 1048575 := by
      unfold okU okP at ho; simp only [Bool.and_eq_true, decide_eq_true_eq] at ho
      exact ⟨ho.1.1.1.1.2, ho.1.1.1.2, ho.1.1.1.1.1.1, ho.1.2, ho.2⟩
    obtain ⟨h1, h2, h3, h4, h5⟩ := hk2
    have hs16 : s ≤ 16 := by unfold okA at h3; simp at h3; omega
    obtain ⟨a', rfl⟩ := Int.eq_ofNat_of_zero_le h4
    have hw : IntKind.i64.wrap ((k + 7).tdiv 8) = (k + 7) / 8 := by
      rw [Int.tdiv_eq_ediv_of_nonneg (by omega), w_i64 (by omega) (by omega)]
    have v1 := urc_vrd (rd := rd) (b := b) (s := s) (k := k) (a := (a' : Int)) hr
    have v2 := urc_vb (rd := rd) (b := b) (s := s) (k := k) (a := (a' : Int)) hr hb ((k + 7) / 8).toNat (by omega)
    have w8 : IntKind.u8.wrap (88 + k) = ((UInt8.ofNat (88 + k).toNat).toNat : Int) := by
      rw [← wrap8, Int.toNat_of_nonneg (by omega)]
    have hbl := be_len (a' * 16 + 1) 3
    refine T13 fun hB hA => ?_
    refine W ?_
    refine cu (uRightU hr hb) ?_
    rw [ho]
    refine W ?_
    refine cu (uLabel (a := a') (by omega)) ?_
    refine W ?_
    refine cu (uWhole (n := k) (by omega) (by omega)) ?_
    rw [hw]
    refine W ?_
    have w9 : (88 + k) = ((UInt8.ofNat (88 + k).toNat).toNat : Int) := by rw [← w8, w_u8 (by omega) (by omega)]
    have e : ([PV.int IntKind.u8 (88 + k)] :: (bsl (be (a' * 16 + 1) 3) ++ bsl rd ++ bsl (b.take ((k + 7) / 8).toNat))) = bsl (ubytes rd b k a') := by
      have h0 : (a' : Int).toNat = a' := Int.toNat_natCast a'
      unfold ubytes
      rw [h0]
      show _ = [byt (UInt8.ofNat (88 + k).toNat)] :: List.map (fun b => [byt b]) _
      rw [List.map_append, List.map_append, show ([byt (UInt8.ofNat (88 + k).toNat)] : List PV) = [PV.int IntKind.u8 (88 + k)] by rw [byt, ← w9]]
    rw [← e] at hk
    exact hk
  · intro ho σ Post hk
    refine T13 fun hB hA => ?_
    refine W ?_
    refine cu (uRightU hr hb) ?_
    rw [ho]
    refine W ?_
    exact hk
end
end Go.Proofs.YtdkjcadffhnjgaaDoor
