/- slices.IndexFunc, ContainsFunc, Equal; attr's and pmsi's checks. -/
import Derived.Test.YtjhmobdncjhcnaaGreatDoorHF
import Derived.Test.YtjhmobdncjhcnaaGreatDoorF4
namespace Go.Proofs.YtjhmobdncjhcnaaGreatDoor
open Go Go.V
set_option maxRecDepth 10000
attribute [local irreducible] vBuild vCallV
section
variable {α : Type}
def idxF (p : α → Bool) : List α → Int
  | [] => -1
  | x :: r => if p x = true then 0 else if idxF p r < 0 then -1 else idxF p r + 1
theorem idxF_cons (p : α → Bool) (x : α) (r : List α) : idxF p (x :: r) = if p x = true then 0 else if idxF p r < 0 then -1 else idxF p r + 1 := rfl
theorem idxF_lo (p : α → Bool) : ∀ l, -1 ≤ idxF p l
  | [] => by simp [idxF]
  | x :: r => by
    have := idxF_lo p r
    rw [idxF_cons]; split
    · omega
    · split <;> omega
theorem idxF_any (p : α → Bool) : ∀ l, decide (0 ≤ idxF p l) = l.any p
  | [] => rfl
  | x :: r => by
    have ih := idxF_any p r
    have := idxF_lo p r
    rw [List.any_cons, ← ih, idxF_cons]
    cases hp : p x with
    | true => simp
    | false =>
      rw [if_neg (by simp)]
      split
      · rw [decide_eq_false (by omega), decide_eq_false (by omega)]; rfl
      · rw [decide_eq_true (by omega), decide_eq_true (by omega)]; rfl
theorem idxF_no {p : α → Bool} {l : List α} (h : l.any p = false) : idxF p l = -1 := by
  have h1 := idxF_any p l
  have := idxF_lo p l
  rw [h, decide_eq_false_iff_not] at h1
  omega
theorem idxF_at {p : α → Bool} : ∀ {l : List α} {i : Nat} {x : α}, (l.take i).any p = false → l[i]? = some x → p x = true → idxF p l = i
  | [], i, x, _, h, _ => by simp at h
  | y :: r, 0, x, _, h, hp => by
    simp at h; subst h; rw [idxF_cons, if_pos hp]; rfl
  | y :: r, i + 1, x, h0, h, hp => by
    rw [List.take_succ_cons, List.any_cons, Bool.or_eq_false_iff] at h0
    have ih := idxF_at (l := r) (i := i) (x := x) h0.2 (by simpa using h) hp
    rw [idxF_cons, if_neg (by rw [h0.1]; simp), ih, if_neg (by omega)]; omega
theorem take_snoc {l : List α} {i : Nat} {x : α} (h : l[i]? = some x) : l.take (i + 1) = l.take i ++ [x] := by
  have h5 := (List.getElem?_eq_some_iff.1 h).1
  rw [List.take_succ_eq_append_getElem h5]; congr 2
  rw [List.getElem?_eq_getElem h5] at h; exact Option.some.inj h
theorem drop_cons {l : List α} {i : Nat} {x : α} (h : l[i]? = some x) : l.drop i = x :: l.drop (i + 1) := by
  have h5 := (List.getElem?_eq_some_iff.1 h).1
  rw [List.drop_eq_getElem_cons h5]; congr 1
  rw [List.getElem?_eq_getElem h5] at h; exact Option.some.inj h
def eqBy (e : α → α → Bool) : List α → List α → Bool
  | [], [] => true
  | x :: r, y :: s => e x y && eqBy e r s
  | _, _ => false
theorem eqBy_len (e : α → α → Bool) : ∀ {a b : List α}, a.length ≠ b.length → eqBy e a b = false
  | [], [], h => absurd rfl h
  | [], _ :: _, _ => rfl
  | _ :: _, [], _ => rfl
  | x :: r, y :: s, h => by
    rw [eqBy, eqBy_len e (a := r) (b := s) (fun k => h (by rw [List.length_cons, List.length_cons, k])), Bool.and_false]
end
set_option maxHeartbeats 2000000 in
theorem tIdxA {l : List (Ad)} {p : Ad → Bool} {q : FuncId} {cap : List PV} {σ : VHeap} {Post : KP} (hl : l.length ≤ 4611686018427387904) (hcall : callOk Tryz.prog q = true) (ho : ∀ x, x ∈ l → okD x) (hf : ∀ x, x ∈ l → ∀ (L : VHeap) (Q : KP), Q (.bool (p x)) (σ ++ L) → T Tryz.prog q (.agg (adc x) :: cap) (σ ++ L) Q) (hk : Post (.int .i64 (idxF p l)) σ) :
    T Tryz.prog 91 [.sl (l.map fun x => adc x), .fn q cap] σ Post := by
  refine T91 fun hB hA => ?_
  refine W ?_
  refine lp (fun j e s => ∃ i : Nat, i + j = l.length ∧ e 8 = .int .i64 i ∧ (l.take i).any p = false ∧ s = σ ++ []) l.length ⟨0, by simp, rfl, by simp, rfl⟩ ?_
  rintro j u _ ⟨i, hi, e8, hal, rfl⟩
  by_cases h5 : i < l.length
  · obtain ⟨x, hx⟩ : ∃ x, l[i]? = some x := ⟨_, List.getElem?_eq_getElem h5⟩
    have hg : (l.map fun x => adc x)[(i : Int).toNat]? = some (adc x) := by rw [Int.toNat_natCast, List.getElem?_map, hx]; rfl
    have hm := List.mem_of_getElem? hx
    have cx : cut (adc x) 0 (some 17) = some (.agg (adc x)) := adc_all (ho x hm)
    have lx := adc_len (ho x hm)
    refine W ?_
    refine callC (vs := [.agg (adc x)]) rfl hcall rfl ?_
    refine hf x hm [] _ ?_
    cases hp : p x with
    | true =>
      rw [idxF_at hal hx hp] at hk
      refine W ?_
      exact hk
    | false =>
      refine W ?_
      refine ⟨j - 1, by omega, i + 1, by omega, rfl, ?_, rfl⟩
      rw [take_snoc hx, List.any_append, hal]; simp [hp]
  · have h9 : l.take i = l := List.take_of_length_le (by omega)
    rw [h9] at hal
    rw [idxF_no hal] at hk
    refine W ?_
    exact hk
set_option maxHeartbeats 2000000 in
theorem tConA {l : List (Ad)} {p : Ad → Bool} {q : FuncId} {cap : List PV} {σ : VHeap} {Post : KP} (hl : l.length ≤ 4611686018427387904) (hcall : callOk Tryz.prog q = true) (ho : ∀ x, x ∈ l → okD x) (hf : ∀ x, x ∈ l → ∀ (L : VHeap) (Q : KP), Q (.bool (p x)) (σ ++ L) → T Tryz.prog q (.agg (adc x) :: cap) (σ ++ L) Q) (hk : Post (.bool (l.any p)) σ) :
    T Tryz.prog 41 [.sl (l.map fun x => adc x), .fn q cap] σ Post := by
  have e : decide (0 ≤ idxF p l) = l.any p := idxF_any p l
  rw [← e] at hk
  refine T41 fun hB hA => ?_
  refine W ?_
  refine ct ?_
  refine tIdxA hl hcall ho (fun x hx L Q => by rw [List.append_nil]; exact hf x hx L Q) ?_
  refine W ?_
  exact hk
set_option maxHeartbeats 2000000 in
theorem tIdxS {l : List (Seg)} {p : Seg → Bool} {q : FuncId} {cap : List PV} {σ : VHeap} {Post : KP} (hl : l.length ≤ 4611686018427387904) (hcall : callOk Tryz.prog q = true) (hf : ∀ x, x ∈ l → ∀ (L : VHeap) (Q : KP), Q (.bool (p x)) (σ ++ L) → T Tryz.prog q (.agg (segC x) :: cap) (σ ++ L) Q) (hk : Post (.int .i64 (idxF p l)) σ) :
    T Tryz.prog 92 [.sl (l.map fun x => segC x), .fn q cap] σ Post := by
  refine T92 fun hB hA => ?_
  refine W ?_
  refine lp (fun j e s => ∃ i : Nat, i + j = l.length ∧ e 8 = .int .i64 i ∧ (l.take i).any p = false ∧ s = σ ++ []) l.length ⟨0, by simp, rfl, by simp, rfl⟩ ?_
  rintro j u _ ⟨i, hi, e8, hal, rfl⟩
  by_cases h5 : i < l.length
  · obtain ⟨x, hx⟩ : ∃ x, l[i]? = some x := ⟨_, List.getElem?_eq_getElem h5⟩
    have hg : (l.map fun x => segC x)[(i : Int).toNat]? = some (segC x) := by rw [Int.toNat_natCast, List.getElem?_map, hx]; rfl
    have hm := List.mem_of_getElem? hx
    have cx : cut (segC x) 0 (some 2) = some (.agg (segC x)) := segC_all ⟨trivial⟩
    refine W ?_
    refine callC (vs := [.agg (segC x)]) rfl hcall rfl ?_
    refine hf x hm [] _ ?_
    cases hp : p x with
    | true =>
      rw [idxF_at hal hx hp] at hk
      refine W ?_
      exact hk
    | false =>
      refine W ?_
      refine ⟨j - 1, by omega, i + 1, by omega, rfl, ?_, rfl⟩
      rw [take_snoc hx, List.any_append, hal]; simp [hp]
  · have h9 : l.take i = l := List.take_of_length_le (by omega)
    rw [h9] at hal
    rw [idxF_no hal] at hk
    refine W ?_
    exact hk
set_option maxHeartbeats 2000000 in
theorem tConS {l : List (Seg)} {p : Seg → Bool} {q : FuncId} {cap : List PV} {σ : VHeap} {Post : KP} (hl : l.length ≤ 4611686018427387904) (hcall : callOk Tryz.prog q = true) (hf : ∀ x, x ∈ l → ∀ (L : VHeap) (Q : KP), Q (.bool (p x)) (σ ++ L) → T Tryz.prog q (.agg (segC x) :: cap) (σ ++ L) Q) (hk : Post (.bool (l.any p)) σ) :
    T Tryz.prog 43 [.sl (l.map fun x => segC x), .fn q cap] σ Post := by
  have e : decide (0 ≤ idxF p l) = l.any p := idxF_any p l
  rw [← e] at hk
  refine T43 fun hB hA => ?_
  refine W ?_
  refine ct ?_
  refine tIdxS hl hcall (fun x hx L Q => by rw [List.append_nil]; exact hf x hx L Q) ?_
  refine W ?_
  exact hk
set_option maxHeartbeats 2000000 in
theorem tIdxT {l : List (Tn)} {p : Tn → Bool} {q : FuncId} {cap : List PV} {σ : VHeap} {Post : KP} (hl : l.length ≤ 4611686018427387904) (hcall : callOk Tryz.prog q = true) (ho : ∀ x, x ∈ l → okTn x) (hf : ∀ x, x ∈ l → ∀ (L : VHeap) (Q : KP), Q (.bool (p x)) (σ ++ L) → T Tryz.prog q (.agg (tnC x) :: cap) (σ ++ L) Q) (hk : Post (.int .i64 (idxF p l)) σ) :
    T Tryz.prog 204 [.sl (l.map fun x => tnC x), .fn q cap] σ Post := by
  refine T204 fun hB hA => ?_
  refine W ?_
  refine lp (fun j e s => ∃ i : Nat, i + j = l.length ∧ e 8 = .int .i64 i ∧ (l.take i).any p = false ∧ s = σ ++ []) l.length ⟨0, by simp, rfl, by simp, rfl⟩ ?_
  rintro j u _ ⟨i, hi, e8, hal, rfl⟩
  by_cases h5 : i < l.length
  · obtain ⟨x, hx⟩ : ∃ x, l[i]? = some x := ⟨_, List.getElem?_eq_getElem h5⟩
    have hg : (l.map fun x => tnC x)[(i : Int).toNat]? = some (tnC x) := by rw [Int.toNat_natCast, List.getElem?_map, hx]; rfl
    have hm := List.mem_of_getElem? hx
    have cx : cut (tnC x) 0 (some 21) = some (.agg (tnC x)) := tnC_all (ho x hm)
    have lx := tnC_len (ho x hm)
    refine W ?_
    refine callC (vs := [.agg (tnC x)]) rfl hcall rfl ?_
    refine hf x hm [] _ ?_
    cases hp : p x with
    | true =>
      rw [idxF_at hal hx hp] at hk
      refine W ?_
      exact hk
    | false =>
      refine W ?_
      refine ⟨j - 1, by omega, i + 1, by omega, rfl, ?_, rfl⟩
      rw [take_snoc hx, List.any_append, hal]; simp [hp]
  · have h9 : l.take i = l := List.take_of_length_le (by omega)
    rw [h9] at hal
    rw [idxF_no hal] at hk
    refine W ?_
    exact hk
set_option maxHeartbeats 2000000 in
theorem tConT {l : List (Tn)} {p : Tn → Bool} {q : FuncId} {cap : List PV} {σ : VHeap} {Post : KP} (hl : l.length ≤ 4611686018427387904) (hcall : callOk Tryz.prog q = true) (ho : ∀ x, x ∈ l → okTn x) (hf : ∀ x, x ∈ l → ∀ (L : VHeap) (Q : KP), Q (.bool (p x)) (σ ++ L) → T Tryz.prog q (.agg (tnC x) :: cap) (σ ++ L) Q) (hk : Post (.bool (l.any p)) σ) :
    T Tryz.prog 176 [.sl (l.map fun x => tnC x), .fn q cap] σ Post := by
  have e : decide (0 ≤ idxF p l) = l.any p := idxF_any p l
  rw [← e] at hk
  refine T176 fun hB hA => ?_
  refine W ?_
  refine ct ?_
  refine tIdxT hl hcall ho (fun x hx L Q => by rw [List.append_nil]; exact hf x hx L Q) ?_
  refine W ?_
  exact hk
set_option maxHeartbeats 2000000 in
theorem tIdxB {l : List (Tb)} {p : Tb → Bool} {q : FuncId} {cap : List PV} {σ : VHeap} {Post : KP} (hl : l.length ≤ 4611686018427387904) (hcall : callOk Tryz.prog q = true) (ho : ∀ x, x ∈ l → okTb x) (hf : ∀ x, x ∈ l → ∀ (L : VHeap) (Q : KP), Q (.bool (p x)) (σ ++ L) → T Tryz.prog q (.agg (tbC x) :: cap) (σ ++ L) Q) (hk : Post (.int .i64 (idxF p l)) σ) :
    T Tryz.prog 180 [.sl (l.map fun x => tbC x), .fn q cap] σ Post := by
  refine T180 fun hB hA => ?_
  refine W ?_
  refine lp (fun j e s => ∃ i : Nat, i + j = l.length ∧ e 8 = .int .i64 i ∧ (l.take i).any p = false ∧ s = σ ++ []) l.length ⟨0, by simp, rfl, by simp, rfl⟩ ?_
  rintro j u _ ⟨i, hi, e8, hal, rfl⟩
  by_cases h5 : i < l.length
  · obtain ⟨x, hx⟩ : ∃ x, l[i]? = some x := ⟨_, List.getElem?_eq_getElem h5⟩
    have hg : (l.map fun x => tbC x)[(i : Int).toNat]? = some (tbC x) := by rw [Int.toNat_natCast, List.getElem?_map, hx]; rfl
    have hm := List.mem_of_getElem? hx
    have cx : cut (tbC x) 0 (some 21) = some (.agg (tbC x)) := tbC_all (ho x hm)
    have lx := tbC_len (ho x hm)
    refine W ?_
    refine callC (vs := [.agg (tbC x)]) rfl hcall rfl ?_
    refine hf x hm [] _ ?_
    cases hp : p x with
    | true =>
      rw [idxF_at hal hx hp] at hk
      refine W ?_
      exact hk
    | false =>
      refine W ?_
      refine ⟨j - 1, by omega, i + 1, by omega, rfl, ?_, rfl⟩
      rw [take_snoc hx, List.any_append, hal]; simp [hp]
  · have h9 : l.take i = l := List.take_of_length_le (by omega)
    rw [h9] at hal
    rw [idxF_no hal] at hk
    refine W ?_
    exact hk
set_option maxHeartbeats 2000000 in
theorem tConB {l : List (Tb)} {p : Tb → Bool} {q : FuncId} {cap : List PV} {σ : VHeap} {Post : KP} (hl : l.length ≤ 4611686018427387904) (hcall : callOk Tryz.prog q = true) (ho : ∀ x, x ∈ l → okTb x) (hf : ∀ x, x ∈ l → ∀ (L : VHeap) (Q : KP), Q (.bool (p x)) (σ ++ L) → T Tryz.prog q (.agg (tbC x) :: cap) (σ ++ L) Q) (hk : Post (.bool (l.any p)) σ) :
    T Tryz.prog 138 [.sl (l.map fun x => tbC x), .fn q cap] σ Post := by
  have e : decide (0 ≤ idxF p l) = l.any p := idxF_any p l
  rw [← e] at hk
  refine T138 fun hB hA => ?_
  refine W ?_
  refine ct ?_
  refine tIdxB hl hcall ho (fun x hx L Q => by rw [List.append_nil]; exact hf x hx L Q) ?_
  refine W ?_
  exact hk
set_option maxHeartbeats 2000000 in
theorem tIdxI {l : List (Int)} {p : Int → Bool} {q : FuncId} {cap : List PV} {σ : VHeap} {Post : KP} (hl : l.length ≤ 4611686018427387904) (hcall : callOk Tryz.prog q = true) (hf : ∀ x, x ∈ l → ∀ (L : VHeap) (Q : KP), Q (.bool (p x)) (σ ++ L) → T Tryz.prog q (PV.int .i64 x :: cap) (σ ++ L) Q) (hk : Post (.int .i64 (idxF p l)) σ) :
    T Tryz.prog 253 [.sl (l.map fun x => [PV.int .i64 x]), .fn q cap] σ Post := by
  refine T253 fun hB hA => ?_
  refine W ?_
  refine lp (fun j e s => ∃ i : Nat, i + j = l.length ∧ e 8 = .int .i64 i ∧ (l.take i).any p = false ∧ s = σ ++ []) l.length ⟨0, by simp, rfl, by simp, rfl⟩ ?_
  rintro j u _ ⟨i, hi, e8, hal, rfl⟩
  by_cases h5 : i < l.length
  · obtain ⟨x, hx⟩ : ∃ x, l[i]? = some x := ⟨_, List.getElem?_eq_getElem h5⟩
    have hg : (l.map fun x => [PV.int .i64 x])[(i : Int).toNat]? = some ([PV.int .i64 x]) := by rw [Int.toNat_natCast, List.getElem?_map, hx]; rfl
    have hm := List.mem_of_getElem? hx
    skip
    refine W ?_
    refine callC (vs := [PV.int .i64 x]) rfl hcall rfl ?_
    refine hf x hm [] _ ?_
    cases hp : p x with
    | true =>
      rw [idxF_at hal hx hp] at hk
      refine W ?_
      exact hk
    | false =>
      refine W ?_
      refine ⟨j - 1, by omega, i + 1, by omega, rfl, ?_, rfl⟩
      rw [take_snoc hx, List.any_append, hal]; simp [hp]
  · have h9 : l.take i = l := List.take_of_length_le (by omega)
    rw [h9] at hal
    rw [idxF_no hal] at hk
    refine W ?_
    exact hk
set_option maxHeartbeats 2000000 in
theorem tConI {l : List (Int)} {p : Int → Bool} {q : FuncId} {cap : List PV} {σ : VHeap} {Post : KP} (hl : l.length ≤ 4611686018427387904) (hcall : callOk Tryz.prog q = true) (hf : ∀ x, x ∈ l → ∀ (L : VHeap) (Q : KP), Q (.bool (p x)) (σ ++ L) → T Tryz.prog q (PV.int .i64 x :: cap) (σ ++ L) Q) (hk : Post (.bool (l.any p)) σ) :
    T Tryz.prog 236 [.sl (l.map fun x => [PV.int .i64 x]), .fn q cap] σ Post := by
  have e : decide (0 ≤ idxF p l) = l.any p := idxF_any p l
  rw [← e] at hk
  refine T236 fun hB hA => ?_
  refine W ?_
  refine ct ?_
  refine tIdxI hl hcall (fun x hx L Q => by rw [List.append_nil]; exact hf x hx L Q) ?_
  refine W ?_
  exact hk
set_option maxHeartbeats 2000000 in
theorem uEqlM {a b : List (Mr)} (hla : a.length ≤ 4611686018427387904) (_hlb : b.length ≤ 4611686018427387904) (ha : ∀ x, x ∈ a → okM x) (hb : ∀ x, x ∈ b → okM x) : U Tryz.prog 210 [.sl (a.map fun x => mrc x), .sl (b.map fun x => mrc x)] (.bool (eqBy (fun x y => x == y) a b)) := by
  intro σ Post hk
  refine T210 fun hB hA => ?_
  by_cases hlen : a.length = b.length
  · refine W ?_
    refine lp (fun j e s => ∃ i : Nat, i + j = a.length ∧ e 13 = .int .i64 i ∧ eqBy (fun x y => x == y) a b = eqBy (fun x y => x == y) (a.drop i) (b.drop i) ∧ s = σ ++ []) a.length ⟨0, by simp, rfl, rfl, rfl⟩ ?_
    rintro j u _ ⟨i, hi, e13, heq, rfl⟩
    by_cases h5 : i < a.length
    · obtain ⟨x, hx⟩ : ∃ x, a[i]? = some x := ⟨_, List.getElem?_eq_getElem h5⟩
      obtain ⟨y, hy⟩ : ∃ y, b[i]? = some y := ⟨_, List.getElem?_eq_getElem (by omega)⟩
      have hg : (a.map fun x => mrc x)[(i : Int).toNat]? = some (mrc x) := by rw [Int.toNat_natCast, List.getElem?_map, hx]; rfl
      have hg2 : (b.map fun x => mrc x)[(i : Int).toNat]? = some (mrc y) := by rw [Int.toNat_natCast, List.getElem?_map, hy]; rfl
      have hm := List.mem_of_getElem? hx
      have hm2 := List.mem_of_getElem? hy
      have cx := mrc_all (ha x hm)
      have cy := mrc_all (hb y hm2)
      have lx := mrc_len (ha x hm)
      have ly := mrc_len (hb y hm2)
      have q0 := eqC_mr (ha x hm) (hb y hm2)
      rw [drop_cons hx, drop_cons hy, eqBy] at heq
      cases hp : (x == y : Bool) with
      | true =>
        rw [hp] at q0
        rw [hp, Bool.true_and] at heq
        refine W ?_
        exact ⟨j - 1, by omega, i + 1, by omega, rfl, heq, rfl⟩
      | false =>
        rw [hp] at q0
        rw [hp, Bool.false_and] at heq
        rw [heq] at hk
        refine W ?_
        exact hk
    · have ea : a.drop i = [] := List.drop_of_length_le (by omega)
      have eb : b.drop i = [] := List.drop_of_length_le (by omega)
      rw [ea, eb, eqBy] at heq
      rw [heq] at hk
      refine W ?_
      exact hk
  · rw [eqBy_len _ hlen] at hk
    refine W ?_
    exact hk
set_option maxHeartbeats 2000000 in
theorem uEqlU {a b : List (UR)} (hla : a.length ≤ 4611686018427387904) (_hlb : b.length ≤ 4611686018427387904) (ha : ∀ x, x ∈ a → okUr x) (hb : ∀ x, x ∈ b → okUr x) : U Tryz.prog 211 [.sl (a.map fun x => urU x), .sl (b.map fun x => urU x)] (.bool (eqBy (fun x y => eqUr x y) a b)) := by
  intro σ Post hk
  refine T211 fun hB hA => ?_
  by_cases hlen : a.length = b.length
  · refine W ?_
    refine lp (fun j e s => ∃ i : Nat, i + j = a.length ∧ e 13 = .int .i64 i ∧ eqBy (fun x y => eqUr x y) a b = eqBy (fun x y => eqUr x y) (a.drop i) (b.drop i) ∧ s = σ ++ []) a.length ⟨0, by simp, rfl, rfl, rfl⟩ ?_
    rintro j u _ ⟨i, hi, e13, heq, rfl⟩
    by_cases h5 : i < a.length
    · obtain ⟨x, hx⟩ : ∃ x, a[i]? = some x := ⟨_, List.getElem?_eq_getElem h5⟩
      obtain ⟨y, hy⟩ : ∃ y, b[i]? = some y := ⟨_, List.getElem?_eq_getElem (by omega)⟩
      have hg : (a.map fun x => urU x)[(i : Int).toNat]? = some (urU x) := by rw [Int.toNat_natCast, List.getElem?_map, hx]; rfl
      have hg2 : (b.map fun x => urU x)[(i : Int).toNat]? = some (urU y) := by rw [Int.toNat_natCast, List.getElem?_map, hy]; rfl
      have hm := List.mem_of_getElem? hx
      have hm2 := List.mem_of_getElem? hy
      have cx := nmU_all (a := x.2) (ha x hm)
      have cy := nmU_all (a := y.2) (hb y hm2)
      have lx := nmU_len (a := x.2) (ha x hm)
      have ly := nmU_len (a := y.2) (hb y hm2)
      have q0 := eqC_U (a := x.2) (b := y.2) (ha x hm) (hb y hm2)
      rw [show (sameU x.1.rd x.1.s x.1.b x.1.k y.1.rd y.1.s y.1.b y.1.k && (x.2 == y.2)) = eqUr x y from rfl] at q0
      rw [drop_cons hx, drop_cons hy, eqBy] at heq
      cases hp : (eqUr x y : Bool) with
      | true =>
        rw [hp] at q0
        rw [hp, Bool.true_and] at heq
        refine W ?_
        exact ⟨j - 1, by omega, i + 1, by omega, rfl, heq, rfl⟩
      | false =>
        rw [hp] at q0
        rw [hp, Bool.false_and] at heq
        rw [heq] at hk
        refine W ?_
        exact hk
    · have ea : a.drop i = [] := List.drop_of_length_le (by omega)
      have eb : b.drop i = [] := List.drop_of_length_le (by omega)
      rw [ea, eb, eqBy] at heq
      rw [heq] at hk
      refine W ?_
      exact hk
  · rw [eqBy_len _ hlen] at hk
    refine W ?_
    exact hk
end Go.Proofs.YtjhmobdncjhcnaaGreatDoor
