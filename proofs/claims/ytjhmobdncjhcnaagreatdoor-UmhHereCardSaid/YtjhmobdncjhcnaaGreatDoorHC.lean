/- mroute.answered. -/
import Derived.Test.YtjhmobdncjhcnaaGreatDoorHB
namespace Go.Proofs.YtjhmobdncjhcnaaGreatDoor
open Go Go.V
set_option maxRecDepth 10000
attribute [local irreducible] vBuild vCallV
def goodA (t : Mr × Int) : Bool := decide (t.2 = 0) && (decide (t.1.k = 2) || decide (t.1.k = 3))
def ansG (P : Int → Mr × Int) : Mr × Bool := if goodA (P 4) = true then ((P 4).1, true) else if goodA (P 16) = true then ((P 16).1, true) else (mr0, false)
set_option maxHeartbeats 4000000 in
theorem uAns4 {t : List UInt8} : U Tryz.prog 187 [.str (4 :: t)] (.tup [.agg mz, .bool false]) := by
  intro σ Post hk
  have w1 := mz_zz
  have w2 := mz_zy
  have w3 := mz_all
  have w4 := mz_len
  have w5 := mz_sc
  have i0 : (4 :: t)[0]? = some (4 : UInt8) := rfl
  have k1 : IntKind.i64.wrap ((4 : UInt8).toNat : Int) = 4 := rfl
  refine T187 fun hB hA => ?_
  refine W ?_
  exact hk
theorem byte_ne4 {x : UInt8} (h : x ≠ 4) : ¬ (x.toNat : Int) = 4 := fun e => h (UInt8.toNat_inj.1 (by rw [show (4 : UInt8).toNat = 4 from rfl]; omega))
set_option maxHeartbeats 8000000 in
theorem uAnsG {key : List UInt8} {P : Int → Mr × Int} (hkl : key.length ≤ 140737488355328) (hkey : key.head? ≠ some 4) (hP : ∀ s, s = 4 ∨ s = 16 → U Tryz.prog 171 [.sl (bsl key), .int .i64 s] (.tup [.agg (mrc (P s).1), .int .i64 (P s).2])) (okP : ∀ s, s = 4 ∨ s = 16 → okM (P s).1) :
    U Tryz.prog 187 [.str key] (.tup [.agg (mrc (ansG P).1), .bool (ansG P).2]) := by
  intro σ Post hk
  have w1 := mz_zz
  have w2 := mz_zy
  have w3 := mz_all
  have w4 := mz_len
  have w5 := mz_sc
  have p4 := hP 4 (.inl rfl)
  have p16 := hP 16 (.inr rfl)
  have eb : bsl key = bytesEs key := by unfold bsl bytesEs; rfl
  rw [eb] at p4 p16
  have o4 := okP 4 (.inl rfl)
  have o16 := okP 16 (.inr rfl)
  unfold ansG at hk
  generalize P 4 = A at *
  generalize P 16 = B at *
  have a1 := mz_st o4
  have a2 : splice mz 0 (mrc A.1) = mrc A.1 := ms_all o4
  have a3 := mrc_len o4
  have a4 := mrc_sc (m := A.1)
  have a5 := mrc_all o4
  have a6 : cut (mrc A.1) 0 none = some (.int .i64 A.1.k) := rfl
  have b1 := mz_st o16
  have b2 : splice mz 0 (mrc B.1) = mrc B.1 := ms_all o16
  have b3 := mrc_len o16
  have b4 := mrc_sc (m := B.1)
  have b5 := mrc_all o16
  have b6 : cut (mrc B.1) 0 none = some (.int .i64 B.1.k) := rfl
  refine T187 fun hB hA => ?_
  refine cutp (fun e h => e 0 = .str key ∧ (∃ g, e 2 = .ptr (σ.length + 0) g 0 ∧ g = 1) ∧ h = σ ++ [(1, .box mz false), (0, .dead), (0, .dead), (0, .dead)]) ?_ ?_
  · refine W ?_
    exact ⟨rfl, ⟨1, rfl, rfl⟩, rfl⟩
  rintro u _ ⟨e0, ⟨_, e2, rfl⟩, rfl⟩
  refine cutp (fun e h => e 0 = .str key ∧ (∃ g, e 2 = .ptr (σ.length + 0) g 0 ∧ g = 1) ∧ h = σ ++ [(1, .box mz false), (0, .dead), (0, .dead), (0, .dead)]) ?_ ?_
  · cases key with
    | nil =>
      refine W ?_
      exact ⟨e0, ⟨1, e2, rfl⟩, rfl⟩
    | cons x t =>
      have hx : ¬ (x.toNat : Int) = 4 := byte_ne4 fun e => hkey (by rw [List.head?_cons, e])
      have i0 : (x :: t)[0]? = some x := rfl
      have hx2 := x.toNat_lt
      have k1 : IntKind.i64.wrap (x.toNat : Int) = (x.toNat : Int) := w_i64 (by omega) (by omega)
      refine W ?_
      exact ⟨e0, ⟨1, e2, rfl⟩, rfl⟩
  clear e0 e2
  rintro u _ ⟨e0, ⟨_, e2, rfl⟩, rfl⟩
  refine W ?_
  refine lp (fun j e h => e 0 = .str key ∧ (∃ g, e 2 = .ptr (σ.length + 0) g 0 ∧ g = 1) ∧ (∃ g, e 17 = .row (σ.length + 1) g ∧ g = 1) ∧ e 18 = .int .i64 2 ∧ (j = 2 ∧ e 19 = .int .i64 0 ∨ j = 1 ∧ e 19 = .int .i64 1 ∧ goodA A = false ∨ j = 0 ∧ e 19 = .int .i64 2 ∧ goodA A = false ∧ goodA B = false) ∧
    ∃ g2 b2 g3 b3, h = σ ++ [(1, .box mz false), (1, .row 1 [[.int .i64 4], [.int .i64 16]] false), (g2, b2), (g3, b3)]) 2 ⟨e0, ⟨1, e2, rfl⟩, ⟨1, rfl, rfl⟩, rfl, .inl ⟨rfl, rfl⟩, _, _, _, _, rfl⟩ ?_
  intro j u s' hI
  revert hI
  generalize mix _ u _ = E
  rintro ⟨e0, ⟨_, e2, rfl⟩, ⟨_, e17, rfl⟩, e18, hj, g2, b2', g3, b3', rfl⟩
  clear u
  have ln2 : ([[PV.int IntKind.i64 4], [PV.int IntKind.i64 16]] : List (List PV)).length = 2 := rfl
  rcases hj with ⟨rfl, e19⟩ | ⟨rfl, e19, hA0⟩ | ⟨rfl, e19, hA0, hB0⟩
  · refine W ?_
    refine cu p4 ?_
    by_cases hz : A.2 = 0
    · by_cases h2 : A.1.k = 2
      · have hb : goodA A = true := by unfold goodA; simp [hz, h2]
        rw [if_pos hb] at hk
        refine W ?_
        exact hk
      · by_cases h3 : A.1.k = 3
        · have hb : goodA A = true := by unfold goodA; simp [hz, h3]
          rw [if_pos hb] at hk
          refine W ?_
          exact hk
        · have hb : goodA A = false := by unfold goodA; simp [hz, h2, h3]
          refine W ?_
          exact ⟨1, by omega, e0, ⟨1, e2, rfl⟩, ⟨1, e17, rfl⟩, e18, .inr (.inl ⟨rfl, rfl, hb⟩), _, _, _, _, rfl⟩
    · have hb : goodA A = false := by unfold goodA; simp [hz]
      refine W ?_
      exact ⟨1, by omega, e0, ⟨1, e2, rfl⟩, ⟨1, e17, rfl⟩, e18, .inr (.inl ⟨rfl, rfl, hb⟩), _, _, _, _, rfl⟩
  · refine W ?_
    refine cu p16 ?_
    by_cases hz : B.2 = 0
    · by_cases h2 : B.1.k = 2
      · have hb : goodA B = true := by unfold goodA; simp [hz, h2]
        rw [if_neg (by rw [hA0]; simp)] at hk
        rw [if_pos hb] at hk
        refine W ?_
        exact hk
      · by_cases h3 : B.1.k = 3
        · have hb : goodA B = true := by unfold goodA; simp [hz, h3]
          rw [if_neg (by rw [hA0]; simp)] at hk
          rw [if_pos hb] at hk
          refine W ?_
          exact hk
        · have hb : goodA B = false := by unfold goodA; simp [hz, h2, h3]
          refine W ?_
          exact ⟨0, by omega, e0, ⟨1, e2, rfl⟩, ⟨1, e17, rfl⟩, e18, .inr (.inr ⟨rfl, rfl, hA0, hb⟩), _, _, _, _, rfl⟩
    · have hb : goodA B = false := by unfold goodA; simp [hz]
      refine W ?_
      exact ⟨0, by omega, e0, ⟨1, e2, rfl⟩, ⟨1, e17, rfl⟩, e18, .inr (.inr ⟨rfl, rfl, hA0, hb⟩), _, _, _, _, rfl⟩
  · rw [if_neg (by rw [hA0]; simp), if_neg (by rw [hB0]; simp)] at hk
    refine W ?_
    exact hk
end Go.Proofs.YtjhmobdncjhcnaaGreatDoor
/- mroute.sized. -/
namespace Go.Proofs.YtjhmobdncjhcnaaGreatDoor
open Go Go.V
set_option maxRecDepth 10000
attribute [local irreducible] vBuild vCallV vBuildSlice
def fitA (a : Ad) (s : Int) : Bool := decide (a.s = 0) || decide (a.s = s)
def sizeOk (m : Mr) (s : Int) : Bool := fitA m.s s && fitA m.g s
def sizedG (m : Mr) (s : Int) (e : Int) : Bool := sizeOk m s && (decide (m.k ≠ 4) || decide (e = 0))
set_option maxHeartbeats 4000000 in
theorem uSizedG {m : Mr} {s : Int} {t : Mr × Int} (h : okM m) (hkl : m.key.length ≤ 140737488355328) (ht : okM t.1) (hP : m.k = 4 → U Tryz.prog 171 [.sl (bsl m.key), .int .i64 s] (.tup [.agg (mrc t.1), .int .i64 t.2])) :
    U Tryz.prog 224 [.agg (mrc m), .int .i64 s] (.bool (sizedG m s t.2)) := by
  intro σ Post hk
  have sc := mrc_sc (m := m)
  have ln := mrc_len h
  have c0 := mrc_all h
  have c3 := mc_s h
  have c4 := mc_g h
  have c6 := mc_key h
  have c7 : cut (mrc m) 0 none = some (.int .i64 m.k) := rfl
  have l1 := adc_len h.s
  have l2 := adc_len h.g
  have s1' := adc_sc (a := m.s)
  have s2' := adc_sc (a := m.g)
  have d1 := ad_set h.s
  have d2 := ad_set h.g
  have d3 := adc_all h.s
  have d4 := adc_all h.g
  have d5 := adc_s (a := m.s)
  have d6 := adc_s (a := m.g)
  have w6 := mz_st ht
  have w8 := mrc_len ht
  have w9 := mrc_sc (m := t.1)
  have ln2 : ([adc m.s, adc m.g] : List (List PV)).length = 2 := rfl
  refine T224 fun hB hA => ?_
  refine W ?_
  refine lp (fun j e h => e 1 = .int .i64 s ∧ (∃ g, e 2 = .ptr (σ.length + 0) g 0 ∧ g = 1) ∧ (∃ g, e 13 = .row (σ.length + 1) g ∧ g = 1) ∧ e 14 = .int .i64 2 ∧ (j = 2 ∧ e 15 = .int .i64 0 ∨ j = 1 ∧ e 15 = .int .i64 1 ∧ fitA m.s s = true ∨ j = 0 ∧ e 15 = .int .i64 2 ∧ fitA m.s s = true ∧ fitA m.g s = true) ∧
    ∃ g2 b2 g3 b3 g4 b4, h = σ ++ [(1, .box (mrc m) false), (1, .row 17 [adc m.s, adc m.g] false), (g2, b2), (g3, b3), (g4, b4)]) 2 ⟨rfl, ⟨1, rfl, rfl⟩, ⟨1, rfl, rfl⟩, rfl, .inl ⟨rfl, rfl⟩, _, _, _, _, _, _, rfl⟩ ?_
  intro j u s' hI
  revert hI
  generalize mix _ u _ = E
  rintro ⟨e1, ⟨_, e2, rfl⟩, ⟨_, e13, rfl⟩, e14, hj, g2, b2, g3, b3, g4, b4, rfl⟩
  clear u
  unfold sizedG sizeOk at hk
  rcases hj with ⟨rfl, e15⟩ | ⟨rfl, e15, hA0⟩ | ⟨rfl, e15, hA0, hB0⟩
  · by_cases z0 : m.s.s = 0
    · have hf : fitA m.s s = true := by unfold fitA; simp [z0]
      refine W ?_
      exact ⟨1, by omega, e1, ⟨1, e2, rfl⟩, ⟨1, e13, rfl⟩, e14, .inr (.inl ⟨rfl, rfl, hf⟩), _, _, _, _, _, _, rfl⟩
    · by_cases z1 : m.s.s = s
      · have hf : fitA m.s s = true := by unfold fitA; simp [z1]
        refine W ?_
        exact ⟨1, by omega, e1, ⟨1, e2, rfl⟩, ⟨1, e13, rfl⟩, e14, .inr (.inl ⟨rfl, rfl, hf⟩), _, _, _, _, _, _, rfl⟩
      · have hf : fitA m.s s = false := by unfold fitA; simp [z0, z1]
        rw [hf, Bool.false_and, Bool.false_and] at hk
        refine W ?_
        exact hk
  · rw [hA0, Bool.true_and] at hk
    by_cases z0 : m.g.s = 0
    · have hf : fitA m.g s = true := by unfold fitA; simp [z0]
      refine W ?_
      exact ⟨0, by omega, e1, ⟨1, e2, rfl⟩, ⟨1, e13, rfl⟩, e14, .inr (.inr ⟨rfl, rfl, hA0, hf⟩), _, _, _, _, _, _, rfl⟩
    · by_cases z1 : m.g.s = s
      · have hf : fitA m.g s = true := by unfold fitA; simp [z1]
        refine W ?_
        exact ⟨0, by omega, e1, ⟨1, e2, rfl⟩, ⟨1, e13, rfl⟩, e14, .inr (.inr ⟨rfl, rfl, hA0, hf⟩), _, _, _, _, _, _, rfl⟩
      · have hf : fitA m.g s = false := by unfold fitA; simp [z0, z1]
        rw [hf, Bool.false_and] at hk
        refine W ?_
        exact hk
  · rw [hA0, hB0, Bool.true_and, Bool.true_and] at hk
    by_cases k4 : m.k = 4
    · rw [decide_eq_false (by simpa using k4), Bool.false_or] at hk
      have p := hP k4
      have eb : bsl m.key = bytesEs m.key := rfl
      rw [eb] at p
      refine W ?_
      refine cu p ?_
      by_cases hz : t.2 = 0
      · rw [decide_eq_true hz] at hk
        refine W ?_
        exact hk
      · rw [decide_eq_false hz] at hk
        refine W ?_
        exact hk
    · rw [decide_eq_true k4, Bool.true_or] at hk
      refine W ?_
      exact hk
end Go.Proofs.YtjhmobdncjhcnaaGreatDoor
