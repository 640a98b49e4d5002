/- addr.written, addr.text6, addr.Text, addr.PrefixText. -/
import Derived.Test.YtdkjcadffhnjgaaDoorG8
namespace Go.Proofs.YtdkjcadffhnjgaaDoor
open Go Go.V
set_option maxRecDepth 10000
theorem join_le {ss : List (List UInt8)} {sep : List UInt8} {k : Nat} (h : ∀ s, s ∈ ss → s.length ≤ k) : (Lib.join ss sep).length ≤ ss.length * (k + sep.length) := by
  cases ss with
  | nil => simp [Lib.join_nil]
  | cons x r =>
    rw [Lib.join_cons, List.length_append, List.length_cons]
    have h1 := h x (by simp)
    have h2 : (Lib.joinTail sep r).length ≤ r.length * (k + sep.length) := by
      unfold Lib.joinTail
      have h3 : ∀ s, s ∈ r → s.length ≤ k := fun s hs => h s (by simp [hs])
      clear h h1
      induction r with
      | nil => simp
      | cons y q ih =>
        rw [List.map_cons, List.flatten_cons, List.length_append, List.length_append, List.length_cons]
        have := ih (fun s hs => h3 s (by simp [hs]))
        have := h3 y (by simp)
        rw [Nat.add_mul]; omega
    rw [Nat.add_mul]; omega
theorem hex_le (n : Nat) : (hex n).length ≤ n + 1 := by
  induction n using hex.induct with
  | case1 n h => rw [hex_lt h]; simp
  | case2 n h ih => rw [hex_ge h]; simp; omega
theorem hex_ne (n : Nat) : hex n ≠ [] := by
  by_cases h : n < 16
  · rw [hex_lt h]; simp
  · rw [hex_ge h]; simp
def writ (l : List Nat) : List UInt8 := Lib.join (l.map hex) [58]
theorem writ_len {l : List Nat} (h : ∀ n, n ∈ l → n < 65536) (hl : l.length ≤ 8) : (writ l).length ≤ 1000000 := by
  have := join_le (ss := l.map hex) (sep := [58]) (k := 65536) (fun s hs => by
    obtain ⟨n, hn, rfl⟩ := List.mem_map.1 hs
    have := hex_le n; have := h n hn; omega)
  rw [List.length_map] at this
  have h2 : l.length * (65536 + [(58 : UInt8)].length) ≤ 8 * (65536 + [(58 : UInt8)].length) := Nat.mul_le_mul_right _ hl
  have h3 : 8 * (65536 + [(58 : UInt8)].length) = 524296 := rfl
  unfold writ; omega
theorem uWritten {l : List Nat} (h : ∀ n, n ∈ l → n < 65536) (hl : l.length ≤ 8) : U Tryd.prog 103 [.sl (isl l)] (.str (writ l)) := by
  intro σ Post hk
  have hw := writ_len h hl
  refine T103 fun hB hA => ?_
  refine W ?_
  refine lp (fun j e s => ∃ (i g1 : Nat) (o1 : VObj), i + j = l.length ∧ e 8 = .int .i64 i ∧ e 3 = .row (σ.length + 0) (i + 1) ∧ s = σ ++ [(i + 1, .row 1 (strRow ((l.take i).map hex)) false), (g1, o1), (0, .dead)]) l.length ⟨0, 0, .dead, by simp, rfl, rfl, rfl⟩ ?_
  rintro j u _ ⟨i, g1, o1, hi, e8, e3, rfl⟩
  by_cases h5 : i < l.length
  · obtain ⟨x, hx⟩ : ∃ x, l[i]? = some x := ⟨_, List.getElem?_eq_getElem h5⟩
    have hx2 : (isl l)[(i : Int).toNat]? = some [.int .i64 x] := by rw [Int.toNat_natCast, List.getElem?_map, hx]; rfl
    have hxl := h x (List.mem_of_getElem? hx)
    have hlen : (strRow ((l.take i).map hex)).length = i := by simp; omega
    refine W ?_
    refine cu (uFmt (n := x) (by omega)) ?_
    refine W ?_
    refine ⟨j - 1, by omega, i + 1, g1 + 1, .row 1 [[.str (hex x)]] false, by omega, rfl, rfl, ?_⟩
    have h7 : l.take (i + 1) = l.take i ++ [x] := by
      rw [List.take_succ_eq_append_getElem h5]; congr 2
      rw [List.getElem?_eq_getElem h5] at hx; exact Option.some.inj hx
    rw [h7]; simp [strRow]
  · rw [List.take_of_length_le (by omega)]
    refine W ?_
    refine cu (uJoin (ss := l.map hex) (sep := [58]) (by simp; omega) (by show (writ l).length ≤ _; omega)) ?_
    refine W ?_
    exact hk
/-- An address of IPv6 as a text. -/
def six (b : List UInt8) : List UInt8 :=
  let l := nums b
  let g := gapL l 0 (0, 0)
  if g.2 < 2 then writ l else writ (l.take g.1) ++ [58, 58] ++ writ (l.drop (g.1 + g.2))
theorem gapL_le (l : List Nat) (i : Nat) (s : Nat × Nat) (h : s.1 + s.2 ≤ i + l.length) : (gapL l i s).1 + (gapL l i s).2 ≤ i + l.length := by
  induction l generalizing i s with
  | nil => exact h
  | cons x r ih =>
    rw [gapL, List.length_cons, show i + (r.length + 1) = (i + 1) + r.length by omega]
    apply ih
    split
    · have := zr_le (x :: r); rw [List.length_cons] at this; show i + zr (x :: r) ≤ _; omega
    · rw [List.length_cons] at h; omega
theorem uSix {s : Int} {b : List UInt8} (hb : b.length = 16) : U Tryd.prog 90 [.agg (adr s b)] (.str (six b)) := by
  intro σ Post hk
  have hs := adr_sc s b
  have hl17 : (adr s b).length = 17 := by rw [adr_len, hb]
  have hn8 : (nums b).length = 8 := by rw [nums_len, hb]
  have hlc : (inc (nums b)).length = 8 := by rw [inc_len, hn8]
  have hsc := inc_sc (nums b)
  have hlt := nums_lt b
  have c0 : cut (adr s b) 0 (some 17) = some (.agg (adr s b)) := by
    simp only [cut]; rw [if_pos (by omega), List.drop_zero, List.take_of_length_le (by omega)]
  have c1 : cut (inc (nums b)) 0 (some 8) = some (.agg (inc (nums b))) := by
    simp only [cut]; rw [if_pos (by omega), List.drop_zero, List.take_of_length_le (by omega)]
  have d1 : splice [.int .i64 0, .int .i64 0, .int .i64 0, .int .i64 0, .int .i64 0, .int .i64 0, .int .i64 0, .int .i64 0] 0 (inc (nums b)) = inc (nums b) := by
    unfold splice; rw [hlc]; simp
  have hgl := gapL_le (nums b) 0 (0, 0) (by simp)
  rw [hn8] at hgl
  unfold six at hk
  dsimp only at hk
  refine T90 fun hB hA => ?_
  refine W ?_
  refine cu (uNumbers hb) ?_
  refine W ?_
  refine cu (uGap hn8) ?_
  by_cases h2 : (gapL (nums b) 0 (0, 0)).2 < 2
  · rw [if_pos h2] at hk
    refine W ?_
    refine cu (uWritten (l := ((nums b).drop 0).take 8) (by rw [List.drop_zero, List.take_of_length_le (by omega)]; exact hlt) (by simp; omega)) ?_
    rw [List.drop_zero, List.take_of_length_le (by omega)]
    refine W ?_
    exact hk
  · rw [if_neg h2] at hk
    have hw1 := writ_len (l := (nums b).take (gapL (nums b) 0 (0, 0)).1) (fun n hn => hlt n (List.mem_of_mem_take hn)) (by simp; omega)
    have hw2 := writ_len (l := (nums b).drop ((gapL (nums b) 0 (0, 0)).1 + (gapL (nums b) 0 (0, 0)).2)) (fun n hn => hlt n (List.mem_of_mem_drop hn)) (by simp; omega)
    generalize (gapL (nums b) 0 (0, 0)).1 = f at *
    generalize (gapL (nums b) 0 (0, 0)).2 = m at *
    refine Wo ?_
    refine drJ (fun h => ∃ fz, vGet h (σ.length + 1) 1 = some (.box (inc (nums b)) fz)) [(2, 0), (1, 1), (2, 4), (2, 5), (2, 6), (2, 7), (0, 2), (2, 3), (0, 8), (2, 9), (2, 10)] (by kernel_rfl) (by kernel_rfl) (by exact z_ol) ⟨false, lget rfl rfl⟩ ?_
    refine W ?_
    refine sv2n (v := .bview (σ.length + 1) 1 (f + m) (8 - (f + m))) (fun hh hJ => ?_) ?_
    · obtain ⟨fz, hJ⟩ := hJ
      refine y_sliceArr (l := f + m) (u := 8) (by exact rfl) hJ ?_ (by exact rfl) (by exact rfl) (by omega) (by omega) (by omega) (by omega) (by omega)
      show bound (some (PV.int .i64 ((f : Int) + (m : Int)))) 0 = _
      rw [bd_i (by omega)]; congr 1
    · refine sv_0 ?_
      refine cu (uWritten (l := ((nums b).drop 0).take f) (fun n hn => hlt n (List.mem_of_mem_drop (List.mem_of_mem_take hn))) (by simp; omega)) ?_
      refine st_end ⟨⟨true, lget rfl rfl⟩, ?_⟩
      rw [List.drop_zero]
      refine W ?_
      refine sv_0 ?_
      refine cu (uWritten (l := ((nums b).drop (f + m)).take (8 - (f + m))) (fun n hn => hlt n (List.mem_of_mem_drop (List.mem_of_mem_take hn))) (by simp; omega)) ?_
      refine st_end ⟨⟨true, lget rfl rfl⟩, ?_⟩
      rw [List.take_of_length_le (l := (nums b).drop (f + m)) (by simp; omega)]
      refine W ?_
      exact hk
def itxt (n : Nat) : List UInt8 := Lib.itoa (n : Int)
theorem dec_le (n : Nat) : (Lib.decDigits n).length ≤ n + 1 ∧ Lib.decDigits n ≠ [] := by
  induction n using Lib.decDigits.induct with
  | case1 n h => rw [Lib.decDigits, dif_pos h]; simp
  | case2 n h ih => rw [Lib.decDigits, dif_neg h]; simp; omega
theorem itxt_le (n : Nat) : (itxt n).length ≤ n + 1 := by
  unfold itxt Lib.itoa
  rw [if_neg (by omega)]; exact (dec_le n).1
theorem itxt_ne (n : Nat) : itxt n ≠ [] := by
  unfold itxt Lib.itoa
  rw [if_neg (by omega)]; exact (dec_le n).2
/-- An address as a text. -/
def atext (s : Int) (b : List UInt8) : List UInt8 :=
  if okA s b = true then (if s = 4 then Lib.join ((b.take 4).map fun x => itxt x.toNat) [46] else if s = 16 then six b else []) else []
theorem uText {s : Int} {b : List UInt8} (hb : b.length = 16) : U Tryd.prog 72 [.agg (adr s b)] (.str (atext s b)) := by
  intro σ Post hk
  have hs := adr_sc s b
  have hl17 : (adr s b).length = 17 := by rw [adr_len, hb]
  have c0 : cut (adr s b) 0 (some 17) = some (.agg (adr s b)) := by
    simp only [cut]; rw [if_pos (by omega), List.drop_zero, List.take_of_length_le (by omega)]
  have c1 : cut (adr s b) 0 none = some (.int .i64 s) := rfl
  unfold atext at hk
  refine T72 fun hB hA => ?_
  refine W ?_
  refine cu (uRightA hb) ?_
  cases ha : okA s b with
  | false =>
    rw [if_neg (by simp [ha])] at hk
    refine W ?_
    exact hk
  | true =>
    rw [if_pos ha] at hk
    by_cases h4 : s = 4
    · subst h4
      rw [if_pos rfl] at hk
      refine W ?_
      refine lp (fun j e h => ∃ (i g1 : Nat) (o1 : VObj), i + j = 4 ∧ e 16 = .int .i64 i ∧ e 3 = .row (σ.length + 1) (i + 1) ∧ h = σ ++ [(1, .box (adr 4 b) false), (i + 1, .row 1 (strRow ((b.take i).map fun x => itxt x.toNat)) false), (g1, o1), (0, .dead)]) 4 ⟨0, 0, .dead, by simp, rfl, rfl, rfl⟩ ?_
      rintro j u _ ⟨i, g1, o1, hi, e16, e3, rfl⟩
      by_cases h5 : i < 4
      · obtain ⟨x, hx⟩ : ∃ x, b[i]? = some x := ⟨_, List.getElem?_eq_getElem (by omega)⟩
        have hxl := x.toNat_lt
        have hlen : (strRow ((b.take i).map fun x => itxt x.toNat)).length = i := by simp; omega
        have c2 : cut (adr 4 b) (1 + i) none = some (byt x) := cut_adr hx
        refine W ?_
        refine cu (uItoa (n := (x.toNat : Int)) (by omega) (by omega)) ?_
        refine W ?_
        refine ⟨j - 1, by omega, i + 1, g1 + 1, .row 1 [[.str (itxt x.toNat)]] false, by omega, rfl, rfl, ?_⟩
        have h7 : b.take (i + 1) = b.take i ++ [x] := by
          have h8 : i < b.length := by omega
          rw [List.take_succ_eq_append_getElem h8]; congr 2
          rw [List.getElem?_eq_getElem h8] at hx; exact Option.some.inj hx
        rw [h7]; simp [strRow, itxt]
      · have e4 : i = 4 := by omega
        subst e4
        have hjl := join_le (ss := (b.take 4).map fun x => itxt x.toNat) (sep := [46]) (k := 256) (fun s hs => by
          obtain ⟨x, _, rfl⟩ := List.mem_map.1 hs
          have := itxt_le x.toNat; have := x.toNat_lt; omega)
        have hln : ((b.take 4).map fun x => itxt x.toNat).length = 4 := by simp [hb]
        rw [hln] at hjl
        refine W ?_
        refine cu (uJoin (ss := (b.take 4).map fun x => itxt x.toNat) (sep := [46]) (by omega) (by simp only [List.length_cons, List.length_nil] at hjl; omega)) ?_
        refine W ?_
        exact hk
    · rw [if_neg h4] at hk
      by_cases h16 : s = 16
      · subst h16
        rw [if_pos rfl] at hk
        refine W ?_
        refine cu (uSix hb) ?_
        refine W ?_
        exact hk
      · rw [if_neg h16] at hk
        refine W ?_
        exact hk
end Go.Proofs.YtdkjcadffhnjgaaDoor
