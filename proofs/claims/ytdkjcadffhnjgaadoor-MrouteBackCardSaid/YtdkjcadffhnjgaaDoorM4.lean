/- mroute.Right, given what it says of a leaf's key. -/
import Derived.Test.YtdkjcadffhnjgaaDoorM3
namespace Go.Proofs.YtdkjcadffhnjgaaDoor
open Go Go.V
set_option maxRecDepth 10000
theorem eqC_s (a b : List UInt8) : eqCells [.s] [.str a] [.str b] = some (a == b) := by simp [eqCells, eqCell, eqS]
theorem eqC_ad {a b : Ad} (ha : okD a) (hb : okD b) : eqCells ([.i .i64] ++ List.replicate 16 (.i .u8)) (adc a) (adc b) = some (a == b) := by
  have h := eqC_app (eqC_i a.s b.s) (eqC_u8 a.b b.b (by rw [ha, hb]))
  rw [ha] at h
  have e : (a == b) = (a.s == b.s && (a.b == b.b)) := by
    cases a; cases b
    rw [Bool.eq_iff_iff]
    simp [Ad.mk.injEq]
  rw [e]
  exact h
theorem eqC_mr {a b : Mr} (ha : okM a) (hb : okM b) : eqCells [.i .i64, .i .u8, .i .u8, .i .u8, .i .u8, .i .u8, .i .u8, .i .u8, .i .u8, .i .i64, .i .i64, .i .u8, .i .u8, .i .u8, .i .u8, .i .u8, .i .u8, .i .u8, .i .u8, .i .u8, .i .u8, .i .u8, .i .u8, .i .u8, .i .u8, .i .u8, .i .u8, .i .i64, .i .u8, .i .u8, .i .u8, .i .u8, .i .u8, .i .u8, .i .u8, .i .u8, .i .u8, .i .u8, .i .u8, .i .u8, .i .u8, .i .u8, .i .u8, .i .u8, .i .i64, .i .u8, .i .u8, .i .u8, .i .u8, .i .u8, .i .u8, .i .u8, .i .u8, .i .u8, .i .u8, .i .u8, .i .u8, .i .u8, .i .u8, .i .u8, .i .u8, .s] (mrc a) (mrc b) = some (a == b) := by
  have h := eqC_app (eqC_i a.k b.k) (eqC_app (eqC_u8 a.rd b.rd (by rw [ha.rd, hb.rd])) (eqC_app (eqC_i a.aa b.aa) (eqC_app (eqC_ad ha.s hb.s) (eqC_app (eqC_ad ha.g hb.g) (eqC_app (eqC_ad ha.f hb.f) (eqC_s a.key b.key))))))
  rw [ha.rd] at h
  have e : (a == b) = (a.k == b.k && (a.rd == b.rd && (a.aa == b.aa && (a.s == b.s && (a.g == b.g && (a.f == b.f && (a.key == b.key))))))) := by
    cases a; cases b
    rw [Bool.eq_iff_iff]
    simp [Mr.mk.injEq]
  rw [e]
  exact h
/-- Is a route right, where B says whether a leaf's key answers one? -/
def rightG (m : Mr) (B : Bool) : Bool := (ofF m.k).2 && ((bareF m (ofF m.k).1 == m) && (decide (0 ≤ m.aa) && (decide (m.aa ≤ 4294967295) && ((!(ofF m.k).1.fr || someA m.f) && ((!(ofF m.k).1.fl || flowsF m.s m.g (decide (m.k = 3))) && (decide (m.k ≠ 4) || B))))))
attribute [local irreducible] vBuild
set_option maxHeartbeats 4000000 in
theorem uRightG {m X : Mr} {B : Bool} (h : okM m) (hX : okM X) (ha : m.k = 4 → U Tryd.prog 67 [.str m.key] (.tup [.agg (mrc X), .bool B])) : U Tryd.prog 32 [.agg (mrc m)] (.bool (rightG m B)) := by
  intro σ Post hp
  have sc := mrc_sc (m := m)
  have ln := mrc_len h
  have c0 := mrc_all h
  have c2 := mc_as h
  have c3 := mc_s h
  have c4 := mc_g h
  have c5 := mc_f h
  have c6 := mc_key h
  have c7 : cut (mrc m) 0 none = some (.int .i64 m.k) := rfl
  have scX := mrc_sc (m := X)
  have lnX := mrc_len hX
  have setX := mz_st hX
  have as2 := adc_len h.s
  have as3 := adc_len h.g
  have as4 := adc_len h.f
  have bare := uBare h
  unfold rightG at hp
  have bok := bareF_ok h (ofF m.k).1
  have oU := uOf (k := m.k)
  generalize ofF m.k = pq at hp bare bok oU
  obtain ⟨p, K⟩ := pq
  dsimp only at hp bare bok oU
  have q2 : cut (ptc p) 2 none = some (.bool p.fl) := rfl
  have q3 : cut (ptc p) 3 none = some (.bool p.fr) := rfl
  have qs := pt_set p
  have qa : cut (ptc p) 0 (some 4) = some (.agg (ptc p)) := rfl
  have ql := pt_len p
  have qc := pt_sc p
  refine T32 fun hB hA => ?_
  refine W ?_
  refine cu oU ?_
  cases K with
  | false =>
    rw [Bool.false_and] at hp
    refine W ?_
    exact hp
  | true =>
    rw [Bool.true_and] at hp
    have bU := bare rfl
    have scb := mrc_sc (m := bareF m p)
    have eqc := eqC_mr bok h
    refine W ?_
    refine s1 bU ?_
    cases he : (bareF m p == m) with
    | false =>
      rw [he, Bool.false_and] at hp
      rw [he] at eqc
      refine W ?_
      exact hp
    | true =>
      rw [he, Bool.true_and] at hp
      rw [he] at eqc
      clear bU bare oU
      by_cases h0 : m.aa < 0
      · rw [decide_eq_false (show ¬ 0 ≤ m.aa by omega), Bool.false_and] at hp
        refine W ?_
        exact hp
      rw [decide_eq_true (show 0 ≤ m.aa by omega), Bool.true_and] at hp
      by_cases h1 : m.aa > 4294967295
      · rw [decide_eq_false (show ¬ m.aa ≤ 4294967295 by omega), Bool.false_and] at hp
        refine W ?_
        exact hp
      rw [decide_eq_true (show m.aa ≤ 4294967295 by omega), Bool.true_and] at hp
      have last : ∀ {b : Bool}, b = (decide (m.k ≠ 4) || B) → (m.k ≠ 4 → b = true) ∧ (m.k = 4 → b = B) := fun hb => by
        constructor
        · intro h4; rw [hb, decide_eq_true h4, Bool.true_or]
        · intro h4; rw [hb, decide_eq_false (by simpa using h4), Bool.false_or]
      cases hfr : p.fr with
      | true =>
        rw [hfr] at q3
        rw [hfr, Bool.not_true, Bool.false_or] at hp
        refine W ?_
        refine cu (uSome h.f) ?_
        cases hs : someA m.f with
        | false =>
          rw [hs, Bool.false_and] at hp
          refine W ?_
          exact hp
        | true =>
          rw [hs, Bool.true_and] at hp
          cases hfl : p.fl with
          | true =>
            rw [hfl] at q2
            rw [hfl, Bool.not_true, Bool.false_or] at hp
            by_cases k3 : m.k = 3
            · rw [decide_eq_true k3] at hp
              refine W ?_
              refine cu (uFlows h.s h.g) ?_
              cases hw : flowsF m.s m.g true with
              | false =>
                rw [hw, Bool.false_and] at hp
                refine W ?_
                exact hp
              | true =>
                rw [hw, Bool.true_and, decide_eq_true (show m.k ≠ 4 by omega), Bool.true_or] at hp
                refine W ?_
                exact hp
            · rw [decide_eq_false k3] at hp
              refine W ?_
              refine cu (uFlows h.s h.g) ?_
              cases hw : flowsF m.s m.g false with
              | false =>
                rw [hw, Bool.false_and] at hp
                refine W ?_
                exact hp
              | true =>
                rw [hw, Bool.true_and] at hp
                by_cases k4 : m.k = 4
                · rw [(last rfl).2 k4] at hp
                  have hU := ha k4
                  refine W ?_
                  refine cu hU ?_
                  refine W ?_
                  exact hp
                · rw [(last rfl).1 k4] at hp
                  refine W ?_
                  exact hp
          | false =>
            rw [hfl] at q2
            rw [hfl, Bool.not_false, Bool.true_or, Bool.true_and] at hp
            by_cases k4 : m.k = 4
            · rw [(last rfl).2 k4] at hp
              have hU := ha k4
              refine W ?_
              refine cu hU ?_
              refine W ?_
              exact hp
            · rw [(last rfl).1 k4] at hp
              refine W ?_
              exact hp
      | false =>
        rw [hfr] at q3
        rw [hfr, Bool.not_false, Bool.true_or, Bool.true_and] at hp
        cases hfl : p.fl with
        | true =>
          rw [hfl] at q2
          rw [hfl, Bool.not_true, Bool.false_or] at hp
          by_cases k3 : m.k = 3
          · rw [decide_eq_true k3] at hp
            refine W ?_
            refine cu (uFlows h.s h.g) ?_
            cases hw : flowsF m.s m.g true with
            | false =>
              rw [hw, Bool.false_and] at hp
              refine W ?_
              exact hp
            | true =>
              rw [hw, Bool.true_and, decide_eq_true (show m.k ≠ 4 by omega), Bool.true_or] at hp
              refine W ?_
              exact hp
          · rw [decide_eq_false k3] at hp
            refine W ?_
            refine cu (uFlows h.s h.g) ?_
            cases hw : flowsF m.s m.g false with
            | false =>
              rw [hw, Bool.false_and] at hp
              refine W ?_
              exact hp
            | true =>
              rw [hw, Bool.true_and] at hp
              by_cases k4 : m.k = 4
              · rw [(last rfl).2 k4] at hp
                have hU := ha k4
                refine W ?_
                refine cu hU ?_
                refine W ?_
                exact hp
              · rw [(last rfl).1 k4] at hp
                refine W ?_
                exact hp
        | false =>
          rw [hfl] at q2
          rw [hfl, Bool.not_false, Bool.true_or, Bool.true_and] at hp
          by_cases k4 : m.k = 4
          · rw [(last rfl).2 k4] at hp
            have hU := ha k4
            refine W ?_
            refine cu hU ?_
            refine W ?_
            exact hp
          · rw [(last rfl).1 k4] at hp
            refine W ?_
            exact hp
end Go.Proofs.YtdkjcadffhnjgaaDoor
