/- Addresses: bytes.Trim, addr.Right. -/
import Derived.Test.YtdkjcadffhnjgaaDoorG2
namespace Go.Proofs.YtdkjcadffhnjgaaDoor
open Go Go.V
set_option maxRecDepth 10000
def trimL (l : List UInt8) : List UInt8 := l.dropWhile (· == 0)
def trimR (l : List UInt8) : List UInt8 := (trimL l.reverse).reverse
theorem trimR_eq {l : List UInt8} (h : ∀ h0 : l ≠ [], l.getLast h0 ≠ 0) : trimR l = l := by
  unfold trimR trimL
  cases h1 : l.reverse with
  | nil => simp at h1; simp [h1]
  | cons a r =>
    have h2 : l ≠ [] := fun e => by subst e; cases h1
    have h3 : l.getLast h2 = a := by
      have := List.head_reverse (l := l) (by rw [h1]; simp)
      rw [← this]; simp [h1]
    have h4 := h h2
    rw [h3] at h4
    rw [List.dropWhile_cons_of_neg (by simpa using h4), ← h1, List.reverse_reverse]
theorem trimR_snoc (l : List UInt8) : trimR (l ++ [0]) = trimR l := by
  unfold trimR trimL
  rw [List.reverse_append, List.reverse_singleton, List.singleton_append, List.dropWhile_cons_of_pos (by rfl)]
theorem uTrimR {l : List UInt8} (hl : l.length ≤ 140737488355328) : U Tryd.prog 108 [.sl (bsl l), .int .u8 0] (.sl (bsl (trimR l))) := by
  intro σ Post hk
  refine T108 fun hB hA => ?_
  refine W ?_
  refine lp (fun k e s => ∃ q : List UInt8, q.length = k ∧ q.length ≤ l.length ∧ e 0 = .sl (bsl q) ∧ trimR q = trimR l ∧ s = σ ++ [(1, .row 1 [] false)]) l.length ⟨l, rfl, Nat.le_refl _, rfl, rfl, rfl⟩ ?_
  rintro k u _ ⟨q, hq, hq2, e0, et, rfl⟩
  rcases List.eq_nil_or_concat q with h | ⟨q', x, h⟩
  · subst h
    rw [← et] at hk
    refine W ?_
    exact hk
  · rw [List.concat_eq_append] at h
    have hlen : q.length = q'.length + 1 := by rw [h]; simp
    have hx : (bsl q)[((q.length : Int) - 1).toNat]? = some [byt x] := by
      rw [List.getElem?_map, show ((q.length : Int) - 1).toNat = q'.length by omega, h]; simp
    by_cases h0 : x = 0
    · subst h0
      refine W ?_
      refine ⟨k - 1, by omega, q.take ((q.length : Int) - 1).toNat, ?_, ?_, rfl, ?_, rfl⟩
      · rw [List.length_take]; omega
      · rw [List.length_take]; omega
      · rw [← et, show ((q.length : Int) - 1).toNat = q'.length by omega, h, List.take_left' rfl, trimR_snoc]
    · have h1 : ¬ ((x.toNat : Int) = 0) := fun e => h0 (UInt8.toNat_inj.1 (by exact_mod_cast e))
      rw [← et, trimR_eq (by intro hq0; subst h; simpa using h0)] at hk
      refine W ?_
      exact hk
theorem uTrimL {l : List UInt8} (hl : l.length ≤ 140737488355328) : U Tryd.prog 107 [.sl (bsl l), .int .u8 0] (.sl (bsl (trimL l))) := by
  intro σ Post hk
  refine T107 fun hB hA => ?_
  refine W ?_
  refine lp (fun k e s => ∃ q : List UInt8, q.length = k ∧ q.length ≤ l.length ∧ e 0 = .sl (bsl q) ∧ trimL q = trimL l ∧ s = σ ++ [(1, .row 1 [] false)]) l.length ⟨l, rfl, Nat.le_refl _, rfl, rfl, rfl⟩ ?_
  rintro k u _ ⟨q, hq, hq2, e0, et, rfl⟩
  rcases q with _ | ⟨x, q'⟩
  · rw [← et] at hk
    refine W ?_
    exact hk
  · have hx : (bsl (x :: q'))[(0 : Int).toNat]? = some [byt x] := rfl
    have hlen : (x :: q').length = q'.length + 1 := rfl
    by_cases h0 : x = 0
    · subst h0
      refine W ?_
      refine ⟨k - 1, by simp at hq; omega, q', by simp at hq; omega, by simp at hq2; omega, rfl, ?_, rfl⟩
      rw [← et]; rfl
    · have h1 : ¬ ((x.toNat : Int) = 0) := fun e => h0 (UInt8.toNat_inj.1 (by exact_mod_cast e))
      rw [← et, show trimL (x :: q') = x :: q' by unfold trimL; rw [List.dropWhile_cons_of_neg (by simpa using h0)]] at hk
      refine W ?_
      exact hk
theorem uTrim {l : List UInt8} (hl : l.length ≤ 140737488355328) : U Tryd.prog 97 [.sl (bsl l), .str [0]] (.sl (bsl (trimL (trimR l)))) := by
  intro σ Post hk
  refine T97 fun hB hA => ?_
  by_cases h0 : l = []
  · subst h0
    refine W ?_
    exact hk
  · have h1 : ¬ l.length = 0 := fun h => h0 (List.eq_nil_of_length_eq_zero h)
    have h2 : (trimR l).length ≤ l.length := by
      unfold trimR trimL
      rw [List.length_reverse]
      have := (List.dropWhile_sublist (fun x : UInt8 => x == 0) (l := l.reverse)).length_le
      rw [List.length_reverse] at this; exact this
    refine W ?_
    refine s1 (uTrimR hl) ?_
    refine W ?_
    refine s1 (uTrimL (l := trimR l) (by omega)) ?_
    refine W ?_
    exact hk
/-- Bytes as cells. -/
def u8c (l : List UInt8) : List PV := l.map byt
theorem u8c_len (l : List UInt8) : (u8c l).length = l.length := by simp [u8c]
theorem u8c_sc (l : List UInt8) : (u8c l).all scalar = true := by simp [u8c, scalar]
def adr (s : Int) (b : List UInt8) : List PV := .int .i64 s :: u8c b
theorem adr_sc (s : Int) (l : List UInt8) : (adr s l).all scalar = true := by
  rw [adr, List.all_cons, u8c_sc]; rfl
instance (s : Int) (b : List UInt8) (o l : Nat) : VCut (adr s b) (1 + o) l (bsl ((b.drop o).take l)) := ⟨by
  rw [Nat.add_comm 1 o, adr, List.drop_succ_cons]; simp [u8c, bsl, List.map_drop, List.map_take, Function.comp_def]⟩
instance (s : Int) (b : List UInt8) (o l : Nat) : VCut (adr s b) (o + 1) l (bsl ((b.drop o).take l)) := ⟨by
  rw [adr, List.drop_succ_cons]; simp [u8c, bsl, List.map_drop, List.map_take, Function.comp_def]⟩
instance (l : List UInt8) : PlL (u8c l) := by unfold u8c; infer_instance
instance (l : List UInt8) : ClL (u8c l) := by unfold u8c; infer_instance
instance (s : Int) (l : List UInt8) : PlL (adr s l) := by unfold adr; infer_instance
instance (s : Int) (l : List UInt8) : ClL (adr s l) := by unfold adr; infer_instance
def okA (s : Int) (b : List UInt8) : Bool := (s == 0 || s == 4 || s == 16) && (b.drop s.toNat).all (· == 0)
theorem trimL_all (l : List UInt8) : (trimL l).all (· == 0) = l.all (· == 0) := by
  induction l with
  | nil => rfl
  | cons a r ih =>
    unfold trimL at *
    by_cases h : a = 0
    · subst h
      rw [List.dropWhile_cons_of_pos (by rfl), ih, List.all_cons]; rfl
    · rw [List.dropWhile_cons_of_neg (by simpa using h)]
theorem trimL_nil (l : List UInt8) : trimL l = [] ↔ l.all (· == 0) = true := by
  constructor
  · intro h; rw [← trimL_all, h]; rfl
  · intro h
    induction l with
    | nil => rfl
    | cons a r ih =>
      rw [List.all_cons, Bool.and_eq_true] at h
      unfold trimL at *
      rw [List.dropWhile_cons, if_pos h.1]; exact ih h.2
theorem trim_nil (l : List UInt8) : (trimL (trimR l)).length = 0 ↔ l.all (· == 0) = true := by
  rw [List.length_eq_zero_iff, trimL_nil]
  unfold trimR
  rw [List.all_reverse, trimL_all, List.all_reverse]
theorem uRightA {s : Int} {b : List UInt8} (hb : b.length = 16) : U Tryd.prog 84 [.agg (adr s b)] (.bool (okA s b)) := by
  intro σ Post hk
  refine T84 fun hB hA => ?_
  have c0 : cut (adr s b) 0 none = some (.int .i64 s) := rfl
  have hl : (adr s b).length = 17 := by simp [adr, u8c_len, hb]
  have hs := adr_sc s b
  unfold okA at hk
  by_cases h : s = 0 ∨ s = 4 ∨ s = 16
  · have h1 : (s == 0 || s == 4 || s == 16) = true := by rcases h with h | h | h <;> simp [h]
    rw [h1, Bool.true_and] at hk
    rcases h with rfl | rfl | rfl
    · refine W ?_
      refine cu (uTrim (l := (b.drop 0).take 16) (by simp; omega)) ?_
      rw [List.take_of_length_le (by simp; omega)]
      cases ha : (b.drop 0).all (· == 0)
      · have h2 : ¬ ((trimL (trimR (b.drop 0))).length : Int) = 0 := fun e => by
          have := (trim_nil (b.drop 0)).1 (by exact_mod_cast e)
          rw [ha] at this; cases this
        rw [show (b.drop (Int.toNat 0)).all (· == 0) = false from ha] at hk
        refine W ?_
        exact hk
      · have h2 : ((trimL (trimR (b.drop 0))).length : Int) = 0 := by exact_mod_cast (trim_nil (b.drop 0)).2 ha
        rw [show (b.drop (Int.toNat 0)).all (· == 0) = true from ha] at hk
        refine W ?_
        exact hk
    · refine W ?_
      refine cu (uTrim (l := (b.drop 4).take 12) (by simp; omega)) ?_
      rw [List.take_of_length_le (by simp; omega)]
      cases ha : (b.drop 4).all (· == 0)
      · have h2 : ¬ ((trimL (trimR (b.drop 4))).length : Int) = 0 := fun e => by
          have := (trim_nil (b.drop 4)).1 (by exact_mod_cast e)
          rw [ha] at this; cases this
        rw [show (b.drop (Int.toNat 4)).all (· == 0) = false from ha] at hk
        refine W ?_
        exact hk
      · have h2 : ((trimL (trimR (b.drop 4))).length : Int) = 0 := by exact_mod_cast (trim_nil (b.drop 4)).2 ha
        rw [show (b.drop (Int.toNat 4)).all (· == 0) = true from ha] at hk
        refine W ?_
        exact hk
    · refine W ?_
      refine cu (uTrim (l := (b.drop 16).take 0) (by simp)) ?_
      rw [show (b.drop (Int.toNat 16)).all (· == 0) = true by rw [List.drop_of_length_le (by omega)]; rfl] at hk
      refine W ?_
      exact hk
  · have h1 : (s == 0 || s == 4 || s == 16) = false := by simp; omega
    rw [h1, Bool.false_and] at hk
    refine W ?_
    exact hk
end Go.Proofs.YtdkjcadffhnjgaaDoor
