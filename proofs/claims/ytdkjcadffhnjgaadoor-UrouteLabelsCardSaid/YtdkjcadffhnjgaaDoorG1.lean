import Derived.Test.YtdkjcadffhnjgaaDoorF1
import Derived.Test.YtdkjcadffhnjgaaDoorVB
namespace Go.Proofs.YtdkjcadffhnjgaaDoor
open Go Go.V
set_option maxRecDepth 10000
theorem uWhole {n : Int} (h0 : -9223372036854775800 ≤ n) (h1 : n ≤ 9223372036854775800) : U Tryd.prog 42 [.int .i64 n] (.int .i64 (IntKind.i64.wrap ((n + 7).tdiv 8))) := by
  intro σ Post hk
  refine T42 fun hB hA => ?_
  refine W ?_
  exact hk
theorem tLeft {σ : VHeap} {Post : KP} {id g : Nat} {es : List (List PV)} {bad : Bool} (h : vGet σ id g = some (.box [.sl es, .bool bad] false)) (hk : Post (.int .i64 (if bad then 0 else es.length)) σ) : T Tryd.prog 49 [.ptr id g 0] σ Post := by
  refine T49 fun hB hA => ?_
  cases bad
  · refine W ?_
    exact hk
  · refine W ?_
    exact hk
theorem tBad {σ : VHeap} {Post : KP} {id g : Nat} {es : List (List PV)} {bad : Bool} (h : vGet σ id g = some (.box [.sl es, .bool bad] false)) (hk : Post (.bool bad) σ) : T Tryd.prog 46 [.ptr id g 0] σ Post := by
  refine T46 fun hB hA => ?_
  refine W ?_
  exact hk
/-- bytes.Clone. -/
theorem uClone {l : List UInt8} (hl : l.length ≤ 140737488355328) : U Tryd.prog 76 [.sl (bsl l)] (.sl (bsl l)) := by
  intro σ Post hk
  refine T76 fun hB hA => ?_
  refine W ?_
  refine nilE rfl rfl ?_ fun hn => ?_
  · refine W ?_
    exact hk
  · refine W ?_
    rw [hn] at hk
    exact hk
theorem tNext {σ : VHeap} {Post : KP} {id g : Nat} {l : List UInt8} {bad : Bool} {n : Int} (h : vGet σ id g = some (.box [.sl (bsl l), .bool bad] false))
    (hk : ∀ l1 l2 b, (if bad = true ∨ n < 0 ∨ l.length < n then l1 = [] ∧ l2 = l ∧ b = true else l1 = l.take n.toNat ∧ l2 = l.drop n.toNat ∧ b = false) → Post (.sl (bsl l1)) (σ.set id (g, .box [.sl (bsl l2), .bool b] false))) : T Tryd.prog 77 [.ptr id g 0, .int .i64 n] σ Post := by
  refine T77 fun hB hA => ?_
  cases bad
  · by_cases h0 : n < 0
    · refine W ?_
      exact hk [] l true (by simp [h0])
    · by_cases h1 : (l.length : Int) < n
      · refine W ?_
        exact hk [] l true (by simp [h1])
      · refine W ?_
        exact hk (l.take n.toNat) (l.drop n.toNat) false (by simp [h0, h1])
  · refine W ?_
    exact hk [] l true (by simp)
/-- cursor.Open. -/
theorem tOpen {σ L L' : VHeap} {n k : Nat} {Post : KP} {l : List UInt8} (hl : l.length ≤ 140737488355328) (hk : Post (.ptr (n + k) 1 0) (σ ++ L'))
    (hn : σ.length = n := by exact z_hn) (hL : L.length = k := by exact z_ll) (hL' : L ++ [(1, VObj.box [.sl (bsl l), .bool false] false)] = L' := by exact z_nl) : T Tryd.prog 43 [.sl (bsl l)] (σ ++ L) Post := by
  subst hn hL hL'
  refine T43 ?_
  refine W ?_
  refine cu (uClone hl) ?_
  refine W ?_
  rw [List.length_append, List.append_assoc]
  exact hk
/-- cursor.Take. -/
theorem tTake {σ : VHeap} {Post : KP} {id g : Nat} {l : List UInt8} {bad : Bool} {n : Int} (hl : l.length ≤ 140737488355328) (h : vGet σ id g = some (.box [.sl (bsl l), .bool bad] false))
    (hk : ∀ l1 l2 b, (if bad = true ∨ n < 0 ∨ l.length < n then l1 = [] ∧ l2 = l ∧ b = true else l1 = l.take n.toNat ∧ l2 = l.drop n.toNat ∧ b = false) → Post (.sl (bsl l1)) (σ.set id (g, .box [.sl (bsl l2), .bool b] false))) : T Tryd.prog 48 [.ptr id g 0, .int .i64 n] σ Post := by
  refine T48 fun hB hA => ?_
  refine W ?_
  refine ct ?_
  refine tNext (oget h) fun l1 l2 b hb => ?_
  rw [oset _ (vGet_lt h)]
  have : l1.length ≤ l.length := by
    split at hb
    · rw [hb.1]; simp
    · rw [hb.1, List.length_take]; omega
  refine W ?_
  refine cu (uClone (l := l1) (by omega)) ?_
  refine W ?_
  exact hk l1 l2 b hb
/-- cursor.Sub. -/
theorem tSub {σ L : VHeap} {Post : KP} {n k m g : Nat} {l : List UInt8} {bad : Bool} {z : Int} (hl : l.length ≤ 140737488355328) (h : vGet L k g = some (.box [.sl (bsl l), .bool bad] false))
    (hk : ∀ l1 l2 b, (if bad = true ∨ z < 0 ∨ l.length < z then l1 = [] ∧ l2 = l ∧ b = true else l1 = l.take z.toNat ∧ l2 = l.drop z.toNat ∧ b = false) → Post (.ptr (n + m) 1 0) (σ ++ (L.set k (g, .box [.sl (bsl l2), .bool b] false) ++ [(1, VObj.box [.sl (bsl l1), .bool b] false)])))
    (hn : σ.length = n := by exact z_hn) (hL : L.length = m := by exact z_ll) : T Tryd.prog 45 [.ptr (n + k) g 0, .int .i64 z] (σ ++ L) Post := by
  subst hn hL
  have hk' := (List.getElem?_eq_some_iff.1 (vGet_some h)).1
  refine T45 ?_
  refine W ?_
  refine ct ?_
  refine tTake hl (oget (lget rfl h)) fun l1 l2 b hb => ?_
  rw [oset _ (by rw [List.length_append]; omega), lset rfl]
  have hg : vGet ((σ ++ L.set k (g, .box [.sl (bsl l2), .bool b] false)) ++ [D.dd]) (σ.length + k) g = some (.box [.sl (bsl l2), .bool b] false) := oget (lget rfl (hget_eq hk'))
  refine W ?_
  rw [List.length_append, List.append_assoc]
  exact hk l1 l2 b hb
/-- The number that bytes are. -/
def big : List UInt8 → Nat → Nat
  | [], a => a
  | b :: r, a => big r (a * 256 + b.toNat)
theorem big_app (a b : List UInt8) (k : Nat) : big (a ++ b) k = big b (big a k) := by
  induction a generalizing k with
  | nil => rfl
  | cons x r ih => exact ih _
theorem big_lt (a : List UInt8) (k : Nat) : big a k < (k + 1) * 256 ^ a.length := by
  induction a generalizing k with
  | nil => simp [big]
  | cons x r ih =>
    have h1 := ih (k * 256 + x.toNat)
    have h2 : x.toNat < 256 := x.toNat_lt
    have h3 : (k * 256 + x.toNat + 1) * 256 ^ r.length ≤ ((k + 1) * 256) * 256 ^ r.length := Nat.mul_le_mul_right _ (by omega)
    rw [big, List.length_cons, Nat.pow_succ, Nat.mul_comm (256 ^ _) 256, ← Nat.mul_assoc]
    omega
theorem tNum {σ : VHeap} {Post : KP} {id g : Nat} {l : List UInt8} {bad : Bool} {z : Int} (h : vGet σ id g = some (.box [.sl (bsl l), .bool bad] false))
    (hk : ∀ l1 l2 b, (if bad = true ∨ z < 1 ∨ 4 < z ∨ l.length < z then l1 = [] ∧ l2 = l ∧ b = true else l1 = l.take z.toNat ∧ l2 = l.drop z.toNat ∧ b = false) → Post (.int .i64 (big l1 0)) (σ.set id (g, .box [.sl (bsl l2), .bool b] false))) : T Tryd.prog 44 [.ptr id g 0, .int .i64 z] σ Post := by
  refine T44 fun hB hA => ?_
  refine cutp (fun env h' => env 0 = .ptr id g 0 ∧ env 1 = .int .i64 z ∧ h' = σ ++ []) ?_ ?_
  · refine W ?_
    exact ⟨rfl, rfl, rfl⟩
  rintro u _ ⟨e0, e1, rfl⟩
  refine cutp (fun env h' => env 0 = .ptr id g 0 ∧ (∃ y, env 1 = .int .i64 y ∧ ((z < 1 ∨ 4 < z) ∧ y = -1 ∨ ¬ (z < 1 ∨ 4 < z) ∧ y = z)) ∧ h' = σ ++ []) ?_ ?_
  · by_cases h1 : z < 1
    · refine W ?_
      exact ⟨rfl, ⟨_, rfl, .inl ⟨.inl h1, rfl⟩⟩, rfl⟩
    · by_cases h4 : z > 4
      · refine W ?_
        exact ⟨rfl, ⟨_, rfl, .inl ⟨.inr h4, rfl⟩⟩, rfl⟩
      · refine W ?_
        exact ⟨rfl, ⟨_, rfl, .inr ⟨by omega, rfl⟩⟩, rfl⟩
  clear e0 e1
  rintro u _ ⟨e0, ⟨y, e1, hy⟩, rfl⟩
  refine W ?_
  refine ct ?_
  refine tNext (oget h) fun l1 l2 b hb => ?_
  rw [oset _ (vGet_lt h)]
  have h4 : l1.length ≤ 4 := by
    split at hb
    · rw [hb.1]; simp
    · rw [hb.1, List.length_take]; omega
  refine W ?_
  refine lp (fun k e s => ∃ i : Nat, i + k = l1.length ∧ e 20 = .int .i64 i ∧ e 5 = .int .i64 (big (l1.take i) 0) ∧ s = σ.set id (g, .box [.sl (bsl l2), .bool b] false) ++ []) l1.length ⟨0, by simp, rfl, rfl, rfl⟩ ?_
  rintro k u' _ ⟨i, hi, e20, e5, rfl⟩
  have h6 := big_lt (l1.take i) 0
  have h7 : 256 ^ (l1.take i).length ≤ 256 ^ 4 := Nat.pow_le_pow_right (by omega) (by rw [List.length_take]; omega)
  by_cases h5 : i < l1.length
  · have h7 : 256 ^ (l1.take i).length ≤ 256 ^ 3 := Nat.pow_le_pow_right (by omega) (by rw [List.length_take]; omega)
    have h8 := l1[i].toNat_lt
    have b1 : ibin .shl .i64 (big (l1.take i) 0 : Int) .u64 8 = some (.int .i64 ((big (l1.take i) 0 * 256 : Nat) : Int)) := ib_shlN (n := 8) (by omega) (by omega)
    have b2 : ibin .or .i64 ((big (l1.take i) 0 * 256 : Nat) : Int) .i64 (l1[i].toNat : Int) = some (.int .i64 ((big (l1.take (i + 1)) 0 : Nat) : Int)) := by
      rw [ib_orN (by omega) (by omega), or_low (by omega), List.take_succ_eq_append_getElem h5, big_app]; rfl
    refine W ?_
    exact ⟨k - 1, by omega, i + 1, by omega, rfl, rfl, rfl⟩
  · have h9 : l1.take i = l1 := List.take_of_length_le (by omega)
    rw [h9] at e5
    refine W ?_
    exact hk l1 l2 b (by grind)
/-- A number in so many bytes. -/
def be (n : Nat) : Nat → List UInt8
  | 0 => []
  | k + 1 => UInt8.ofNat (n / 256 ^ k) :: be n k
theorem be_len (n k : Nat) : (be n k).length = k := by induction k with
  | zero => rfl
  | succ k ih => simp [be, ih]
theorem be_drop (n k i : Nat) (h : i ≤ k) : (be n k).drop (k - i) = be n i := by
  induction k with
  | zero => have : i = 0 := by omega
            subst this; rfl
  | succ k ih =>
    by_cases e : i = k + 1
    · subst e; simp
    · have : k + 1 - i = (k - i) + 1 := by omega
      rw [this, be, List.drop_succ_cons]; exact ih (by omega)
theorem be_next (n k i : Nat) (h : i < k) : (be n k).take (i + 1) = (be n k).take i ++ [UInt8.ofNat (n / 256 ^ (k - 1 - i))] := by
  have h1 : i < (be n k).length := by rw [be_len]; exact h
  rw [List.take_succ_eq_append_getElem h1]
  have h2 := be_drop n k (k - i) (by omega)
  rw [show k - (k - i) = i by omega, List.drop_eq_getElem_cons h1, show k - i = (k - 1 - i) + 1 by omega, be] at h2
  rw [(List.cons.inj h2).1]
theorem cf76r : cFun Tryd.prog rawF true Tryd.f76 = some ⟨8, 3, vb76, [.tmp 2], true⟩ := by kernel_rfl
/-- bytes.Clone, whose row is the caller's. -/
theorem tCloneR {σ L L1 L2 : VHeap} {n k : Nat} {Post : KP} {l : List UInt8} (hl : l.length ≤ 140737488355328) (hk1 : l = [] → Post (.row (n + k) 2) (σ ++ L1)) (hk2 : Post (.row (n + (k + 1)) 2) (σ ++ L2))
    (hn : σ.length = n := by exact z_hn) (hL : L.length = k := by exact z_ll) (h1 : L ++ [(2, VObj.row 1 [] false), (0, .dead), (0, .dead)] = L1 := by exact z_nl) (h2 : L ++ [(1, VObj.row 1 [] false), (2, .row 1 (bsl l) false), (0, .dead)] = L2 := by exact z_nl) : T Tryd.prog 76 [.sl (bsl l)] (σ ++ L) Post := by
  subst hn hL h1 h2
  refine T.walkR Tryd.func76 cf76r (Nat.le_of_ble_eq_true rfl) rfl ?_
  refine W ?_
  refine nilE rfl rfl ?_ fun hn => ?_
  · refine W ?_
    refine ret_raw (.inl rfl) rfl (by exact z_rw) ?_
    rw [List.length_append, List.append_assoc]
    exact hk2
  · refine W ?_
    refine ret_raw (.inl rfl) rfl (by exact z_rw) ?_
    rw [List.length_append, List.append_assoc]
    exact hk1 (by cases l with
      | nil => rfl
      | cons a b => cases hn)
theorem wrap8 (a : Nat) : IntKind.u8.wrap (a : Int) = ((UInt8.ofNat a).toNat : Int) := by
  unfold IntKind.wrap
  simp [IntKind.bits, IntKind.signed]
theorem uPut {l : List UInt8} {n z : Nat} (h1 : 1 ≤ z) (h4 : z ≤ 4) (hn : n < 256 ^ z) (hl : l.length ≤ 1000000) : U Tryd.prog 61 [.sl (bsl l), .int .i64 n, .int .i64 z] (.tup [.sl (bsl (l ++ be n z)), .int .i64 0]) := by
  intro σ Post hk
  have p8 : ∀ i, (256 : Nat) ^ i = 2 ^ (8 * i) := fun i => by rw [Nat.pow_mul]
  have hn4 : n < 256 ^ 4 := Nat.lt_of_lt_of_le hn (Nat.pow_le_pow_right (by omega) h4)
  have b1 : ibin .shr .i64 (n : Int) .i64 (8 * (z : Int)) = some (.int .i64 0) := by
    have := ib_shrN (a := n) (k := .i64) (k' := .i64) (n := 8 * z) (by show 8 * z ≤ 64; omega)
    rw [← p8, Nat.div_eq_of_lt hn] at this
    exact_mod_cast this
  refine T61 fun hB hA => ?_
  refine W ?_
  refine ct ?_
  refine tCloneR (l := l) (by omega) (fun h0 => ?_) ?_
  · refine W ?_
    refine lp (fun k e s => ∃ (i : Nat) (g1 : Nat) (o1 : VObj), i + k = z ∧ e 9 = .int .i64 (8 * ((z : Int) - 1 - i)) ∧ e 8 = .row (σ.length + 3) (i + 2) ∧
      s = σ ++ [(1, .row 1 [] false), (g1, o1), (0, .dead), (i + 2, .row 1 (bsl (l ++ (be n z).take i)) false), (0, .dead), (0, .dead)]) z ⟨0, 0, .dead, by simp, by simp; rfl, rfl, by subst h0; simp [List.take_zero]⟩ ?_
    rintro k u' _ ⟨i, g1, o1, hi, e9, e8, rfl⟩
    by_cases h5 : i < z
    · have b2 : ibin .shr .i64 (n : Int) .i64 (8 * ((z : Int) - 1 - i)) = some (.int .i64 ((n / 256 ^ (z - 1 - i) : Nat) : Int)) := by
        have := ib_shrN (a := n) (k := .i64) (k' := .i64) (n := 8 * (z - 1 - i)) (by show 8 * (z - 1 - i) ≤ 64; omega)
        rw [← p8] at this
        rw [← this]; congr 1; omega
      have b3 := wrap8 (n / 256 ^ (z - 1 - i))
      have b4 : (be n z).length = z := be_len n z
      refine W ?_
      refine ⟨k - 1, by omega, i + 1, g1 + 1, .row 1 [[byt (UInt8.ofNat (n / 256 ^ (z - 1 - i)))]] false, by omega, by show PV.int _ _ = _; congr 1; omega, rfl, ?_⟩
      rw [be_next n z i h5, ← List.append_assoc]
    · have h6 : (be n z).take i = be n z := List.take_of_length_le (by rw [be_len]; omega)
      rw [h6]
      refine W ?_
      exact hk
  · refine W ?_
    refine lp (fun k e s => ∃ (i : Nat) (g1 : Nat) (o1 : VObj), i + k = z ∧ e 9 = .int .i64 (8 * ((z : Int) - 1 - i)) ∧ e 8 = .row (σ.length + 4) (i + 2) ∧
      s = σ ++ [(1, .row 1 [] false), (g1, o1), (0, .dead), (1, .row 1 [] false), (i + 2, .row 1 (bsl (l ++ (be n z).take i)) false), (0, .dead)]) z ⟨0, 0, .dead, by simp, by simp; rfl, rfl, by rw [List.take_zero, List.append_nil]⟩ ?_
    rintro k u' _ ⟨i, g1, o1, hi, e9, e8, rfl⟩
    by_cases h5 : i < z
    · have b2 : ibin .shr .i64 (n : Int) .i64 (8 * ((z : Int) - 1 - i)) = some (.int .i64 ((n / 256 ^ (z - 1 - i) : Nat) : Int)) := by
        have := ib_shrN (a := n) (k := .i64) (k' := .i64) (n := 8 * (z - 1 - i)) (by show 8 * (z - 1 - i) ≤ 64; omega)
        rw [← p8] at this
        rw [← this]; congr 1; omega
      have b3 := wrap8 (n / 256 ^ (z - 1 - i))
      have b4 : (be n z).length = z := be_len n z
      refine W ?_
      refine ⟨k - 1, by omega, i + 1, g1 + 1, .row 1 [[byt (UInt8.ofNat (n / 256 ^ (z - 1 - i)))]] false, by omega, by show PV.int _ _ = _; congr 1; omega, rfl, ?_⟩
      rw [be_next n z i h5, ← List.append_assoc]
    · have h6 : (be n z).take i = be n z := List.take_of_length_le (by rw [be_len]; omega)
      rw [h6]
      refine W ?_
      exact hk
end Go.Proofs.YtdkjcadffhnjgaaDoor
