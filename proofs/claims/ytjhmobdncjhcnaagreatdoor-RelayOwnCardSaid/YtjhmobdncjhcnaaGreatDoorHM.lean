/- attr.Same, rib.SameRoute. -/
import Derived.Test.YtjhmobdncjhcnaaGreatDoorR9
import Derived.Test.YtjhmobdncjhcnaaGreatDoorF5
import Derived.Test.YtjhmobdncjhcnaaGreatDoorHJ
namespace Go.Proofs.YtjhmobdncjhcnaaGreatDoor
open Go Go.V
set_option maxRecDepth 10000
set_option linter.unusedVariables false
attribute [local irreducible] vBuild vCallV
set_option maxHeartbeats 4000000 in
theorem uEqlA {a b : List (Ad)} (hla : a.length ≤ 4611686018427387904) (hlb : b.length ≤ 4611686018427387904) (ha : ∀ x, x ∈ a → okD x) (hb : ∀ x, x ∈ b → okD x) : U Tryz.prog 96 [.sl (a.map fun x => adc x), .sl (b.map fun x => adc x)] (.bool (eqBy (fun x y => x == y) a b)) := by
  intro σ Post hk
  refine T96 fun hB hA => ?_
  by_cases hlen : a.length = b.length
  · refine W ?_
    refine lp (fun j e s => ∃ i : Nat, i + j = a.length ∧ e 13 = .int .i64 i ∧ eqBy (fun x y => x == y) a b = eqBy (fun x y => x == y) (a.drop i) (b.drop i) ∧ s = σ ++ []) a.length ⟨0, by simp, rfl, rfl, rfl⟩ ?_
    rintro j u _ ⟨i, hi, e13, heq, rfl⟩
    by_cases h5 : i < a.length
    · obtain ⟨x, hx⟩ : ∃ x, a[i]? = some x := ⟨_, List.getElem?_eq_getElem h5⟩
      obtain ⟨y, hy⟩ : ∃ y, b[i]? = some y := ⟨_, List.getElem?_eq_getElem (by omega)⟩
      have hg : (a.map fun x => adc x)[(i : Int).toNat]? = some (adc x) := by rw [Int.toNat_natCast, List.getElem?_map, hx]; rfl
      have hg2 : (b.map fun x => adc x)[(i : Int).toNat]? = some (adc y) := by rw [Int.toNat_natCast, List.getElem?_map, hy]; rfl
      have hm := List.mem_of_getElem? hx
      have hm2 := List.mem_of_getElem? hy
      have cx := adc_all (ha x hm)
      have cy := adc_all (hb y hm2)
      have lx := adc_len (ha x hm)
      have ly := adc_len (hb y hm2)
      have q0 := eqC_ad (ha x hm) (hb y hm2)
      rw [drop_cons hx, drop_cons hy, eqBy] at heq
      cases hp : (x == y : Bool) with
      | true =>
        rw [hp] at q0
        rw [hp, Bool.true_and] at heq
        refine W ?_
        exact ⟨j - 1, by omega, i + 1, by omega, rfl, heq, rfl⟩
      | false =>
        rw [hp] at q0
        rw [hp, Bool.false_and] at heq
        rw [heq] at hk
        refine W ?_
        exact hk
    · have ea : a.drop i = [] := List.drop_of_length_le (by omega)
      have eb : b.drop i = [] := List.drop_of_length_le (by omega)
      rw [ea, eb, eqBy] at heq
      rw [heq] at hk
      refine W ?_
      exact hk
  · rw [eqBy_len _ hlen] at hk
    refine W ?_
    exact hk
set_option maxHeartbeats 4000000 in
theorem uEqlE {a b : List (List UInt8)} (hla : a.length ≤ 4611686018427387904) (hlb : b.length ≤ 4611686018427387904) (ha : ∀ x, x ∈ a → x.length = 8) (hb : ∀ x, x ∈ b → x.length = 8) : U Tryz.prog 97 [.sl (a.map fun x => u8c x), .sl (b.map fun x => u8c x)] (.bool (eqBy (fun x y => x == y) a b)) := by
  intro σ Post hk
  refine T97 fun hB hA => ?_
  by_cases hlen : a.length = b.length
  · refine W ?_
    refine lp (fun j e s => ∃ i : Nat, i + j = a.length ∧ e 13 = .int .i64 i ∧ eqBy (fun x y => x == y) a b = eqBy (fun x y => x == y) (a.drop i) (b.drop i) ∧ s = σ ++ []) a.length ⟨0, by simp, rfl, rfl, rfl⟩ ?_
    rintro j u _ ⟨i, hi, e13, heq, rfl⟩
    by_cases h5 : i < a.length
    · obtain ⟨x, hx⟩ : ∃ x, a[i]? = some x := ⟨_, List.getElem?_eq_getElem h5⟩
      obtain ⟨y, hy⟩ : ∃ y, b[i]? = some y := ⟨_, List.getElem?_eq_getElem (by omega)⟩
      have hg : (a.map fun x => u8c x)[(i : Int).toNat]? = some (u8c x) := by rw [Int.toNat_natCast, List.getElem?_map, hx]; rfl
      have hg2 : (b.map fun x => u8c x)[(i : Int).toNat]? = some (u8c y) := by rw [Int.toNat_natCast, List.getElem?_map, hy]; rfl
      have hm := List.mem_of_getElem? hx
      have hm2 := List.mem_of_getElem? hy
      have lx : (u8c x).length = 8 := by rw [u8c_len, ha x hm]
      have ly : (u8c y).length = 8 := by rw [u8c_len, hb y hm2]
      have cx := cut_hd0 lx
      have cy := cut_hd0 ly
      have q0 := eqC_u8 x y (by rw [ha x hm, hb y hm2])
      rw [ha x hm] at q0
      rw [drop_cons hx, drop_cons hy, eqBy] at heq
      cases hp : (x == y : Bool) with
      | true =>
        rw [hp] at q0
        rw [hp, Bool.true_and] at heq
        refine W ?_
        exact ⟨j - 1, by omega, i + 1, by omega, rfl, heq, rfl⟩
      | false =>
        rw [hp] at q0
        rw [hp, Bool.false_and] at heq
        rw [heq] at hk
        refine W ?_
        exact hk
    · have ea : a.drop i = [] := List.drop_of_length_le (by omega)
      have eb : b.drop i = [] := List.drop_of_length_le (by omega)
      rw [ea, eb, eqBy] at heq
      rw [heq] at hk
      refine W ?_
      exact hk
  · rw [eqBy_len _ hlen] at hk
    refine W ?_
    exact hk
set_option maxHeartbeats 4000000 in
theorem uEqlI {a b : List Int} (hla : a.length ≤ 4611686018427387904) (hlb : b.length ≤ 4611686018427387904) : U Tryz.prog 146 [.sl (a.map fun x => [PV.int .i64 x]), .sl (b.map fun x => [PV.int .i64 x])] (.bool (eqBy (fun x y => x == y) a b)) := by
  intro σ Post hk
  have b1 : (a.map fun x => [PV.int .i64 x]).length = a.length := List.length_map _
  have b2 : (b.map fun x => [PV.int .i64 x]).length = b.length := List.length_map _
  refine T146 fun hB hA => ?_
  by_cases hlen : a.length = b.length
  · refine W ?_
    refine lp (fun j e s => ∃ i : Nat, i + j = a.length ∧ e 13 = .int .i64 i ∧ eqBy (fun x y => x == y) a b = eqBy (fun x y => x == y) (a.drop i) (b.drop i) ∧ s = σ ++ []) a.length ⟨0, by simp, rfl, rfl, rfl⟩ ?_
    rintro j u _ ⟨i, hi, e13, heq, rfl⟩
    by_cases h5 : i < a.length
    · obtain ⟨x, hx⟩ : ∃ x, a[i]? = some x := ⟨_, List.getElem?_eq_getElem h5⟩
      obtain ⟨y, hy⟩ : ∃ y, b[i]? = some y := ⟨_, List.getElem?_eq_getElem (by omega)⟩
      have hg : (a.map fun x => [PV.int .i64 x])[(i : Int).toNat]? = some [PV.int .i64 x] := by rw [Int.toNat_natCast, List.getElem?_map, hx]; rfl
      have hg2 : (b.map fun x => [PV.int .i64 x])[(i : Int).toNat]? = some [PV.int .i64 y] := by rw [Int.toNat_natCast, List.getElem?_map, hy]; rfl
      rw [drop_cons hx, drop_cons hy, eqBy] at heq
      by_cases hp : x = y
      · rw [beq_iff_eq.2 hp, Bool.true_and] at heq
        refine W ?_
        exact ⟨j - 1, by omega, i + 1, by omega, rfl, heq, rfl⟩
      · rw [beq_eq_false_iff_ne.2 hp, Bool.false_and] at heq
        rw [heq] at hk
        refine W ?_
        exact hk
    · have ea : a.drop i = [] := List.drop_of_length_le (by omega)
      have eb : b.drop i = [] := List.drop_of_length_le (by omega)
      rw [ea, eb, eqBy] at heq
      rw [heq] at hk
      refine W ?_
      exact hk
  · rw [eqBy_len _ hlen] at hk
    refine W ?_
    exact hk
set_option maxHeartbeats 4000000 in
theorem tEqFS {a b : List Seg} {p : Seg → Seg → Bool} {q : FuncId} {σ : VHeap} {Post : KP} (hla : a.length ≤ 4611686018427387904) (hlb : b.length ≤ 4611686018427387904) (ha : ∀ x, x ∈ a → okSeg x) (hb : ∀ x, x ∈ b → okSeg x) (hcall : callOk Tryz.prog q = true) (hf : ∀ x, x ∈ a → ∀ y, y ∈ b → ∀ (L : VHeap) (Q : KP), Q (.bool (p x y)) (σ ++ L) → T Tryz.prog q [.agg (segC x), .agg (segC y)] (σ ++ L) Q) (hk : Post (.bool (eqBy p a b)) σ) :
    T Tryz.prog 94 [.sl (a.map fun x => segC x), .sl (b.map fun x => segC x), .fn q []] σ Post := by
  have b1 : (a.map fun x => segC x).length = a.length := List.length_map _
  have b2 : (b.map fun x => segC x).length = b.length := List.length_map _
  refine T94 fun hB hA => ?_
  by_cases hlen : a.length = b.length
  · refine W ?_
    refine lp (fun j e s => ∃ (i g1 g2 : Nat) (o1 o2 : VObj), i + j = a.length ∧ e 17 = .int .i64 i ∧ eqBy p a b = eqBy p (a.drop i) (b.drop i) ∧ s = σ ++ [(g1, o1), (g2, o2)]) a.length ⟨0, 0, 0, .dead, .dead, by simp, rfl, rfl, rfl⟩ ?_
    rintro j u _ ⟨i, g1, g2, o1, o2, hi, e17, heq, rfl⟩
    by_cases h5 : i < a.length
    · obtain ⟨x, hx⟩ : ∃ x, a[i]? = some x := ⟨_, List.getElem?_eq_getElem h5⟩
      obtain ⟨y, hy⟩ : ∃ y, b[i]? = some y := ⟨_, List.getElem?_eq_getElem (by omega)⟩
      have hg : (a.map fun x => segC x)[(i : Int).toNat]? = some (segC x) := by rw [Int.toNat_natCast, List.getElem?_map, hx]; rfl
      have hg2 : (b.map fun x => segC x)[(i : Int).toNat]? = some (segC y) := by rw [Int.toNat_natCast, List.getElem?_map, hy]; rfl
      have hm := List.mem_of_getElem? hx
      have hm2 := List.mem_of_getElem? hy
      have lx := segC_len (ha x hm)
      have ly := segC_len (hb y hm2)
      have cx := segC_all (ha x hm)
      have cy := segC_all (hb y hm2)
      have sx := segC_sc (x := x)
      have sy := segC_sc (x := y)
      have zx := segC_any (ha x hm) (cs := [PV.bool false, .nils]) rfl
      have zy := segC_any (hb y hm2) (cs := [PV.bool false, .nils]) rfl
      rw [drop_cons hx, drop_cons hy, eqBy] at heq
      refine W ?_
      refine callC (vs := [.agg (segC x), .agg (segC y)]) rfl hcall rfl ?_
      refine hf x hm y hm2 _ _ ?_
      cases hp : p x y with
      | true =>
        rw [hp, Bool.true_and] at heq
        refine W ?_
        exact ⟨j - 1, by omega, i + 1, _, _, _, _, by omega, rfl, heq, rfl⟩
      | false =>
        rw [hp, Bool.false_and] at heq
        rw [heq] at hk
        refine W ?_
        exact hk
    · have ea : a.drop i = [] := List.drop_of_length_le (by omega)
      have eb : b.drop i = [] := List.drop_of_length_le (by omega)
      rw [ea, eb, eqBy] at heq
      rw [heq] at hk
      refine W ?_
      exact hk
  · rw [eqBy_len _ hlen] at hk
    refine W ?_
    exact hk
set_option maxHeartbeats 4000000 in
theorem tEqFT {a b : List Tn} {p : Tn → Tn → Bool} {q : FuncId} {σ : VHeap} {Post : KP} (hla : a.length ≤ 4611686018427387904) (hlb : b.length ≤ 4611686018427387904) (ha : ∀ x, x ∈ a → okTn x) (hb : ∀ x, x ∈ b → okTn x) (hcall : callOk Tryz.prog q = true) (hf : ∀ x, x ∈ a → ∀ y, y ∈ b → ∀ (L : VHeap) (Q : KP), Q (.bool (p x y)) (σ ++ L) → T Tryz.prog q [.agg (tnC x), .agg (tnC y)] (σ ++ L) Q) (hk : Post (.bool (eqBy p a b)) σ) :
    T Tryz.prog 98 [.sl (a.map fun x => tnC x), .sl (b.map fun x => tnC x), .fn q []] σ Post := by
  have b1 : (a.map fun x => tnC x).length = a.length := List.length_map _
  have b2 : (b.map fun x => tnC x).length = b.length := List.length_map _
  refine T98 fun hB hA => ?_
  by_cases hlen : a.length = b.length
  · refine W ?_
    refine lp (fun j e s => ∃ (i g1 g2 : Nat) (o1 o2 : VObj), i + j = a.length ∧ e 17 = .int .i64 i ∧ eqBy p a b = eqBy p (a.drop i) (b.drop i) ∧ s = σ ++ [(g1, o1), (g2, o2)]) a.length ⟨0, 0, 0, .dead, .dead, by simp, rfl, rfl, rfl⟩ ?_
    rintro j u _ ⟨i, g1, g2, o1, o2, hi, e17, heq, rfl⟩
    by_cases h5 : i < a.length
    · obtain ⟨x, hx⟩ : ∃ x, a[i]? = some x := ⟨_, List.getElem?_eq_getElem h5⟩
      obtain ⟨y, hy⟩ : ∃ y, b[i]? = some y := ⟨_, List.getElem?_eq_getElem (by omega)⟩
      have hg : (a.map fun x => tnC x)[(i : Int).toNat]? = some (tnC x) := by rw [Int.toNat_natCast, List.getElem?_map, hx]; rfl
      have hg2 : (b.map fun x => tnC x)[(i : Int).toNat]? = some (tnC y) := by rw [Int.toNat_natCast, List.getElem?_map, hy]; rfl
      have hm := List.mem_of_getElem? hx
      have hm2 := List.mem_of_getElem? hy
      have lx := tnC_len (ha x hm)
      have ly := tnC_len (hb y hm2)
      have cx := tnC_all (ha x hm)
      have cy := tnC_all (hb y hm2)
      have sx := tnC_sc (x := x)
      have sy := tnC_sc (x := y)
      have zx := tnC_any (ha x hm) (cs := [PV.bool false, .int .i64 0, .int .i64 0, .int .i64 0, D.o, D.o, D.o, D.o, D.o, D.o, D.o, D.o, D.o, D.o, D.o, D.o, D.o, D.o, D.o, D.o, .nils]) rfl
      have zy := tnC_any (hb y hm2) (cs := [PV.bool false, .int .i64 0, .int .i64 0, .int .i64 0, D.o, D.o, D.o, D.o, D.o, D.o, D.o, D.o, D.o, D.o, D.o, D.o, D.o, D.o, D.o, D.o, .nils]) rfl
      rw [drop_cons hx, drop_cons hy, eqBy] at heq
      refine W ?_
      refine callC (vs := [.agg (tnC x), .agg (tnC y)]) rfl hcall rfl ?_
      refine hf x hm y hm2 _ _ ?_
      cases hp : p x y with
      | true =>
        rw [hp, Bool.true_and] at heq
        refine W ?_
        exact ⟨j - 1, by omega, i + 1, _, _, _, _, by omega, rfl, heq, rfl⟩
      | false =>
        rw [hp, Bool.false_and] at heq
        rw [heq] at hk
        refine W ?_
        exact hk
    · have ea : a.drop i = [] := List.drop_of_length_le (by omega)
      have eb : b.drop i = [] := List.drop_of_length_le (by omega)
      rw [ea, eb, eqBy] at heq
      rw [heq] at hk
      refine W ?_
      exact hk
  · rw [eqBy_len _ hlen] at hk
    refine W ?_
    exact hk
end Go.Proofs.YtjhmobdncjhcnaaGreatDoor
/- attr.Same, rib.SameRoute. -/
namespace Go.Proofs.YtjhmobdncjhcnaaGreatDoor
open Go Go.V
set_option maxRecDepth 10000
set_option linter.unusedVariables false
attribute [local irreducible] vBuild vCallV
def sameSeg (x y : Seg) : Bool := (x.set == y.set) && eqBy (fun x y => x == y) x.nums y.nums
def sameTun (x y : Tn) : Bool := decide (x.kind = y.kind) && ((x.root == y.root) && decide (x.id = y.id))
def sameTn (x y : Tn) : Bool := sameTun x y && ((x.leaf == y.leaf) && decide (x.label = y.label))
def sameAt (a b : At) : Bool := decide (a.origin = b.origin) && (decide (a.med = b.med) && (decide (a.pref = b.pref) && ((a.orig == b.orig) && (eqBy sameSeg a.path b.path && (eqBy (fun x y => x == y) a.cl b.cl && (eqBy (fun x y => x == y) a.ex b.ex && eqBy sameTn a.tn b.tn))))))
def sameRt (a b : Rt) : Bool := decide (a.size = b.size) && (decide (a.safi = b.safi) && ((a.m == b.m) && (eqUr a.u b.u && ((a.next == b.next) && sameAt a.att b.att))))
theorem sameSeg_self (x : Seg) : sameSeg x x = true := by unfold sameSeg; rw [eqBy_self (fun x => by simp)]; simp
theorem sameTn_self (x : Tn) : sameTn x x = true := by unfold sameTn sameTun; simp
theorem sameAt_self (a : At) : sameAt a a = true := by
  unfold sameAt
  rw [eqBy_self sameSeg_self, eqBy_self (fun x => by simp) a.cl, eqBy_self (fun x => by simp) a.ex, eqBy_self sameTn_self]; simp
theorem sameRt_self (r : Rt) : sameRt r r = true := by unfold sameRt; rw [eqUr_self, sameAt_self]; simp
structure okCmp (a : At) : Prop where
  ok : okAt a
  cl : ∀ c, c ∈ a.cl → okD c
  tn : ∀ t, t ∈ a.tn → okTn t
  ex8 : ∀ e, e ∈ a.ex → e.length = 8
  l1 : a.path.length ≤ 4611686018427387904
  l2 : a.cl.length ≤ 4611686018427387904
  l3 : a.ex.length ≤ 4611686018427387904
  l4 : a.tn.length ≤ 4611686018427387904
  nums : ∀ s, s ∈ a.path → s.nums.length ≤ 4611686018427387904
set_option maxHeartbeats 8000000 in
theorem uSameSeg {x y : Seg} (lx : x.nums.length ≤ 4611686018427387904) (ly : y.nums.length ≤ 4611686018427387904) : U Tryz.prog 95 [.agg (segC x), .agg (segC y)] (.bool (sameSeg x y)) := by
  intro σ Post hk
  have psc := segC_sc (x := x)
  have pln := segC_len (x := x) ⟨trivial⟩
  have pc0 := segC_all (x := x) ⟨trivial⟩
  have pset := segC_gset (x := x) ⟨trivial⟩
  have pnums := segC_gnums (x := x) ⟨trivial⟩
  have qsc := segC_sc (x := y)
  have qln := segC_len (x := y) ⟨trivial⟩
  have qc0 := segC_all (x := y) ⟨trivial⟩
  have qset := segC_gset (x := y) ⟨trivial⟩
  have qnums := segC_gnums (x := y) ⟨trivial⟩
  refine T95 fun hB hA => ?_
  cases hx : x.set with
  | true =>
    rw [hx] at pset
    cases hy : y.set with
    | true =>
      rw [hy] at qset
      refine W ?_
      refine cu (uEqlI lx ly) ?_
      refine W ?_
      exact fin hk (by simp [sameSeg, hx, hy])
    | false =>
      rw [hy] at qset
      refine W ?_
      exact fin hk (by simp [sameSeg, hx, hy])
  | false =>
    rw [hx] at pset
    cases hy : y.set with
    | true =>
      rw [hy] at qset
      refine W ?_
      exact fin hk (by simp [sameSeg, hx, hy])
    | false =>
      rw [hy] at qset
      refine W ?_
      refine cu (uEqlI lx ly) ?_
      refine W ?_
      exact fin hk (by simp [sameSeg, hx, hy])
set_option maxHeartbeats 8000000 in
theorem uSameTun {x y : Tn} (hx : okTn x) (hy : okTn y) : U Tryz.prog 147 [.agg (tnC x), .agg (tnC y)] (.bool (sameTun x y)) := by
  intro σ Post hk
  have psc := tnC_sc (x := x)
  have pln := tnC_len hx
  have pc0 := tnC_all hx
  have pleaf := tnC_gleaf hx
  have pkind := tnC_gkind hx
  have plabel := tnC_glabel hx
  have proot := tnC_groot hx
  have pid := tnC_gid hx
  have qsc := tnC_sc (x := y)
  have qln := tnC_len hy
  have qc0 := tnC_all hy
  have qleaf := tnC_gleaf hy
  have qkind := tnC_gkind hy
  have qlabel := tnC_glabel hy
  have qroot := tnC_groot hy
  have qid := tnC_gid hy
  have q0 := eqC_ad hx.root hy.root
  refine T147 fun hB hA => ?_
  by_cases h1 : x.kind = y.kind
  · cases h2 : x.root == y.root with
    | true =>
      rw [h2] at q0
      refine W ?_
      refine cu (uEqual (a := x.id) (b := y.id)) ?_
      refine W ?_
      exact fin hk (by simp [sameTun, h1, h2])
    | false =>
      rw [h2] at q0
      refine W ?_
      exact fin hk (by simp [sameTun, h1, h2])
  · refine W ?_
    exact fin hk (by simp [sameTun, h1])
set_option maxHeartbeats 8000000 in
theorem uSameTn {x y : Tn} (hx : okTn x) (hy : okTn y) : U Tryz.prog 99 [.agg (tnC x), .agg (tnC y)] (.bool (sameTn x y)) := by
  intro σ Post hk
  have psc := tnC_sc (x := x)
  have pln := tnC_len hx
  have pc0 := tnC_all hx
  have pleaf := tnC_gleaf hx
  have pkind := tnC_gkind hx
  have plabel := tnC_glabel hx
  have proot := tnC_groot hx
  have pid := tnC_gid hx
  have qsc := tnC_sc (x := y)
  have qln := tnC_len hy
  have qc0 := tnC_all hy
  have qleaf := tnC_gleaf hy
  have qkind := tnC_gkind hy
  have qlabel := tnC_glabel hy
  have qroot := tnC_groot hy
  have qid := tnC_gid hy
  refine T99 fun hB hA => ?_
  refine W ?_
  refine cu (uSameTun hx hy) ?_
  cases h1 : sameTun x y with
  | true =>
    cases lx : x.leaf with
    | true =>
      rw [lx] at pleaf
      cases ly : y.leaf with
      | true =>
        rw [ly] at qleaf
        by_cases h3 : x.label = y.label
        · refine W ?_
          exact fin hk (by simp [sameTn, h1, lx, ly, h3])
        · refine W ?_
          exact fin hk (by simp [sameTn, h1, lx, ly, h3])
      | false =>
        rw [ly] at qleaf
        refine W ?_
        exact fin hk (by simp [sameTn, h1, lx, ly])
    | false =>
      rw [lx] at pleaf
      cases ly : y.leaf with
      | true =>
        rw [ly] at qleaf
        refine W ?_
        exact fin hk (by simp [sameTn, h1, lx, ly])
      | false =>
        rw [ly] at qleaf
        by_cases h3 : x.label = y.label
        · refine W ?_
          exact fin hk (by simp [sameTn, h1, lx, ly, h3])
        · refine W ?_
          exact fin hk (by simp [sameTn, h1, lx, ly, h3])
  | false =>
    refine W ?_
    exact fin hk (by simp [sameTn, h1])
set_option maxHeartbeats 8000000 in
theorem uSameAt {a b : At} (ha : okCmp a) (hb : okCmp b) : U Tryz.prog 46 [.agg (atC a), .agg (atC b)] (.bool (sameAt a b)) := by
  intro σ Post hk
  have psc := atC_sc (x := a)
  have pln := atC_len ha.ok
  have pc0 := atC_all ha.ok
  have porigin := atC_gorigin ha.ok
  have ppath := atC_gpath ha.ok
  have pmed := atC_gmed ha.ok
  have ppref := atC_gpref ha.ok
  have porig := atC_gorig ha.ok
  have pcl := atC_gcl ha.ok
  have pex := atC_gex ha.ok
  have ptn := atC_gtn ha.ok
  have qsc := atC_sc (x := b)
  have qln := atC_len hb.ok
  have qc0 := atC_all hb.ok
  have qorigin := atC_gorigin hb.ok
  have qpath := atC_gpath hb.ok
  have qmed := atC_gmed hb.ok
  have qpref := atC_gpref hb.ok
  have qorig := atC_gorig hb.ok
  have qcl := atC_gcl hb.ok
  have qex := atC_gex hb.ok
  have qtn := atC_gtn hb.ok
  have q0 := eqC_ad ha.ok.orig hb.ok.orig
  have h1' : callOk Tryz.prog 95 = true := by kernel_rfl
  have h2 : callOk Tryz.prog 99 = true := by kernel_rfl
  refine T46 fun hB hA => ?_
  by_cases h1 : a.origin = b.origin
  · by_cases h2' : a.med = b.med
    · by_cases h3 : a.pref = b.pref
      · cases h4 : a.orig == b.orig with
        | true =>
          rw [h4] at q0
          refine W ?_
          refine ct ?_
          refine tEqFS (p := sameSeg) ha.l1 hb.l1 (fun _ _ => ⟨trivial⟩) (fun _ _ => ⟨trivial⟩) h1' (fun x hx y hy L Q hq => uSameSeg (ha.nums x hx) (hb.nums y hy) _ _ hq) ?_
          cases h5 : eqBy sameSeg a.path b.path with
          | true =>
            refine W ?_
            refine cu (uEqlA ha.l2 hb.l2 ha.cl hb.cl) ?_
            cases h6 : eqBy (fun x y => x == y) a.cl b.cl with
            | true =>
              refine W ?_
              refine cu (uEqlE ha.l3 hb.l3 ha.ex8 hb.ex8) ?_
              cases h7 : eqBy (fun x y => x == y) a.ex b.ex with
              | true =>
                refine W ?_
                refine ct ?_
                refine tEqFT (p := sameTn) ha.l4 hb.l4 ha.tn hb.tn h2 (fun x hx y hy L Q hq => uSameTn (ha.tn x hx) (hb.tn y hy) _ _ hq) ?_
                refine W ?_
                exact fin hk (by simp [sameAt, h1, h2', h3, h4, h5, h6, h7])
              | false =>
                refine W ?_
                exact fin hk (by simp [sameAt, h1, h2', h3, h4, h5, h6, h7])
            | false =>
              refine W ?_
              exact fin hk (by simp [sameAt, h1, h2', h3, h4, h5, h6])
          | false =>
            refine W ?_
            exact fin hk (by simp [sameAt, h1, h2', h3, h4, h5])
        | false =>
          rw [h4] at q0
          refine W ?_
          exact fin hk (by simp [sameAt, h1, h2', h3, h4])
      · refine W ?_
        exact fin hk (by simp [sameAt, h1, h2', h3])
    · refine W ?_
      exact fin hk (by simp [sameAt, h1, h2'])
  · refine W ?_
    exact fin hk (by simp [sameAt, h1])
set_option maxHeartbeats 8000000 in
theorem uSameRt {a b : Rt} (ha : okRt a) (hb : okRt b) (ca : okCmp a.att) (cb : okCmp b.att) : U Tryz.prog 17 [.agg (rtC a), .agg (rtC b)] (.bool (sameRt a b)) := by
  intro σ Post hk
  have psc := rtC_sc (x := a)
  have pln := rtC_len ha
  have pc0 := rtC_all ha
  have psize := rtC_gsize ha
  have psafi := rtC_gsafi ha
  have pm := rtC_gm ha
  have pu := rtC_gu ha
  have pnext := rtC_gnext ha
  have patt := rtC_gatt ha
  have qsc := rtC_sc (x := b)
  have qln := rtC_len hb
  have qc0 := rtC_all hb
  have qsize := rtC_gsize hb
  have qsafi := rtC_gsafi hb
  have qm := rtC_gm hb
  have qu := rtC_gu hb
  have qnext := rtC_gnext hb
  have qatt := rtC_gatt hb
  have q1 := eqC_mr ha.m hb.m
  have q2 := eqC_U (a := a.u.2) (b := b.u.2) ha.u hb.u
  have q3 := eqC_ad ha.next hb.next
  rw [show (sameU a.u.1.rd a.u.1.s a.u.1.b a.u.1.k b.u.1.rd b.u.1.s b.u.1.b b.u.1.k && (a.u.2 == b.u.2)) = eqUr a.u b.u from rfl] at q2
  refine T17 fun hB hA => ?_
  by_cases h1 : a.size = b.size
  · by_cases h2 : a.safi = b.safi
    · cases h3 : a.m == b.m with
      | true =>
        rw [h3] at q1
        cases h4 : eqUr a.u b.u with
        | true =>
          rw [h4] at q2
          cases h5 : a.next == b.next with
          | true =>
            rw [h5] at q3
            refine W ?_
            refine cu (uSameAt ca cb) ?_
            refine W ?_
            exact fin hk (by simp [sameRt, h1, h2, h3, h4, h5])
          | false =>
            rw [h5] at q3
            refine W ?_
            exact fin hk (by simp [sameRt, h1, h2, h3, h4, h5])
        | false =>
          rw [h4] at q2
          refine W ?_
          exact fin hk (by simp [sameRt, h1, h2, h3, h4])
      | false =>
        rw [h3] at q1
        refine W ?_
        exact fin hk (by simp [sameRt, h1, h2, h3])
    · refine W ?_
      exact fin hk (by simp [sameRt, h1, h2])
  · refine W ?_
    exact fin hk (by simp [sameRt, h1])
end Go.Proofs.YtjhmobdncjhcnaaGreatDoor
