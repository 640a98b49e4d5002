/- addr.numbers, addr.gap, addr.written. -/
import Derived.Test.YtdkjcadffhnjgaaDoorG6
namespace Go.Proofs.YtdkjcadffhnjgaaDoor
open Go Go.V
set_option maxRecDepth 10000
/-- Numbers as cells, and as the elements of a slice. -/
def inc (l : List Nat) : List PV := l.map fun (n : Nat) => .int .i64 n
@[reducible] def isl (l : List Nat) : List (List PV) := l.map fun (n : Nat) => [.int .i64 n]
theorem inc_len (l : List Nat) : (inc l).length = l.length := by simp [inc]
theorem inc_sc (l : List Nat) : (inc l).all scalar = true := by simp [inc, scalar]
instance (l : List Nat) : PlL (inc l) := by unfold inc; infer_instance
instance (l : List Nat) : ClL (inc l) := by unfold inc; infer_instance
instance (b : List Nat) (o l : Nat) : VCut (inc b) o l (isl ((b.drop o).take l)) := ⟨by simp [inc, isl, List.map_drop, List.map_take, Function.comp_def]⟩
theorem spl_inc {b : List Nat} {i : Nat} {y : Nat} (h : i < b.length) : splice (inc b) i [.int .i64 y] = inc (b.set i y) := by
  unfold splice
  rw [List.set_eq_take_append_cons_drop, if_pos h]
  simp [inc]
theorem cut_inc {b : List Nat} {i : Nat} {x : Nat} (h : b[i]? = some x) : cut (inc b) i none = some (.int .i64 x) := by
  unfold cut inc
  simp only [List.getElem?_map, h]; rfl
def nums : List UInt8 → List Nat
  | x :: y :: r => (x.toNat * 256 + y.toNat) :: nums r
  | _ => []
theorem nums_len (b : List UInt8) : (nums b).length = b.length / 2 := by
  induction b using nums.induct with
  | case1 x y r ih => simp only [nums, List.length_cons, ih]; omega
  | case2 b h => 
    match b, h with
    | [], _ => rfl
    | [_], _ => simp [nums]
    | x :: y :: r, h => exact (h x y r rfl).elim
theorem nums_at {b : List UInt8} {i : Nat} {x y : UInt8} (h1 : b[2 * i]? = some x) (h2 : b[2 * i + 1]? = some y) : (nums b)[i]? = some (x.toNat * 256 + y.toNat) := by
  induction i generalizing b with
  | zero =>
    match b, h1, h2 with
    | [], h1, _ => cases h1
    | [_], _, h2 => cases h2
    | u :: v :: r, h1, h2 => cases h1; cases h2; rfl
  | succ i ih =>
    match b, h1, h2 with
    | [], h1, _ => simp at h1
    | [_], h1, _ => simp at h1
    | u :: v :: r, h1, h2 =>
      rw [nums, List.getElem?_cons_succ]
      exact ih (by rw [← h1, show 2 * (i + 1) = 2 * i + 1 + 1 by omega]; rfl) (by rw [← h2, show 2 * (i + 1) + 1 = 2 * i + 1 + 1 + 1 by omega]; rfl)
theorem nums_lt (b : List UInt8) : ∀ n, n ∈ nums b → n < 65536 := by
  induction b using nums.induct with
  | case1 x y r ih =>
    intro n hn
    rw [nums, List.mem_cons] at hn
    rcases hn with rfl | hn
    · have := x.toNat_lt; have := y.toNat_lt; omega
    · exact ih n hn
  | case2 b h =>
    match b, h with
    | [], _ => intro n hn; cases hn
    | [_], _ => intro n hn; cases hn
    | x :: y :: r, h => exact (h x y r rfl).elim
theorem uNumbers {s : Int} {b : List UInt8} (hb : b.length = 16) : U Tryd.prog 101 [.agg (adr s b)] (.agg (inc (nums b))) := by
  intro σ Post hk
  refine T101 fun hB hA => ?_
  have hs := adr_sc s b
  have hn8 : (nums b).length = 8 := by rw [nums_len, hb]
  have hl17 : (adr s b).length = 17 := by rw [adr_len, hb]
  refine W ?_
  refine lp (fun j e h => ∃ i : Nat, i + j = 8 ∧ e 4 = .int .i64 i ∧ h = σ ++ [(1, .box (adr s b) false), (1, .box (inc ((nums b).take i ++ List.replicate (8 - i) 0)) false)]) 8 ⟨0, rfl, rfl, rfl⟩ ?_
  rintro j u _ ⟨i, hi, e4, rfl⟩
  by_cases h5 : i < 8
  · obtain ⟨x, hx⟩ : ∃ x, b[2 * i]? = some x := ⟨_, List.getElem?_eq_getElem (by omega)⟩
    obtain ⟨y, hy⟩ : ∃ y, b[2 * i + 1]? = some y := ⟨_, List.getElem?_eq_getElem (by omega)⟩
    have hxl := x.toNat_lt
    have hyl := y.toNat_lt
    have c1 : cut (adr s b) (1 + (2 * (i : Int)).toNat) none = some (byt x) := cut_adr (by rw [show (2 * (i : Int)).toNat = 2 * i by omega]; exact hx)
    have c2 : cut (adr s b) (1 + (2 * (i : Int) + 1).toNat) none = some (byt y) := cut_adr (by rw [show (2 * (i : Int) + 1).toNat = 2 * i + 1 by omega]; exact hy)
    have b1 : ibin .shl .i64 (x.toNat : Int) .u64 8 = some (.int .i64 ((x.toNat * 256 : Nat) : Int)) := ib_shlN (n := 8) (by omega) (by omega)
    have b2 : ibin .or .i64 ((x.toNat * 256 : Nat) : Int) .i64 (y.toNat : Int) = some (.int .i64 ((x.toNat * 256 + y.toNat : Nat) : Int)) := by
      rw [ib_orN (by omega) (by omega), or_low (by omega)]
    have hlen : ((nums b).take i ++ List.replicate (8 - i) 0).length = 8 := by simp [hn8]; omega
    have hlc : (inc ((nums b).take i ++ List.replicate (8 - i) 0)).length = 8 := by rw [inc_len, hlen]
    have hs2 : splice (inc ((nums b).take i ++ List.replicate (8 - i) 0)) i [.int .i64 ((x.toNat * 256 + y.toNat : Nat) : Int)] = inc ((nums b).take (i + 1) ++ List.replicate (8 - (i + 1)) 0) := by
      rw [spl_inc (by omega)]
      congr 1
      have h6 : i < (nums b).length := by omega
      have h7 := nums_at hx hy
      rw [List.getElem?_eq_getElem h6] at h7
      rw [List.take_succ_eq_append_getElem h6, Option.some.inj h7, List.set_append_right _ _ (by simp [hn8]; omega)]
      rw [show i - ((nums b).take i).length = 0 by simp [hn8]; omega, show 8 - i = (8 - (i + 1)) + 1 by omega, List.replicate_succ, List.set_cons_zero, List.append_assoc]; rfl
    refine W ?_
    exact ⟨j - 1, by omega, i + 1, by omega, rfl, rfl⟩
  · have e2 : i = 8 := by omega
    subst e2
    rw [show (nums b).take 8 ++ List.replicate (8 - 8) 0 = nums b by rw [List.take_of_length_le (by omega)]; simp]
    have hlc : (inc (nums b)).length = 8 := by rw [inc_len, hn8]
    have hsc := inc_sc (nums b)
    have c1 : cut (inc (nums b)) 0 (some 8) = some (.agg (inc (nums b))) := by
      simp only [cut]; rw [if_pos (by omega), List.drop_zero, List.take_of_length_le (by omega)]
    have d1 : splice (inc (nums b)) 0 (inc (nums b)) = inc (nums b) := by
      unfold splice; rw [hlc, List.drop_of_length_le (by omega)]; simp
    refine W ?_
    exact hk
/-- How many zeros stand ahead. -/
def zr (l : List Nat) : Nat := (l.takeWhile (· == 0)).length
theorem zr_le (l : List Nat) : zr l ≤ l.length := (List.takeWhile_sublist _).length_le
theorem zr_at {l : List Nat} {j : Nat} (h : j < zr l) : l[j]? = some 0 := by
  induction l generalizing j with
  | nil => simp [zr] at h
  | cons x r ih =>
    unfold zr at h
    by_cases h0 : x = 0
    · subst h0
      rw [List.takeWhile_cons_of_pos (by rfl), List.length_cons] at h
      cases j with
      | zero => rfl
      | succ j => exact ih (by unfold zr; omega)
    · rw [List.takeWhile_cons_of_neg (by simpa using h0)] at h; simp at h
theorem zr_end {l : List Nat} {x : Nat} (h : l[zr l]? = some x) : x ≠ 0 := by
  induction l with
  | nil => simp [zr] at h
  | cons y r ih =>
    unfold zr at h
    by_cases h0 : y = 0
    · subst h0
      rw [List.takeWhile_cons_of_pos (by rfl), List.length_cons, List.getElem?_cons_succ] at h
      exact ih h
    · rw [List.takeWhile_cons_of_neg (by simpa using h0)] at h; simp at h; omega
/-- The first of the longest rows of zeros. -/
def gapL : List Nat → Nat → Nat × Nat → Nat × Nat
  | [], _, s => s
  | x :: r, i, s => gapL r (i + 1) (if s.2 < zr (x :: r) then (i, zr (x :: r)) else s)
end Go.Proofs.YtdkjcadffhnjgaaDoor
