/- Messages: which opens are right; sessions: New, Families. -/
import Derived.Test.YtocnjlfnapefjaaGreatDoorT14
import Derived.Test.YtocnjlfnapefjaaGreatDoorT12
namespace Go.Proofs.YtocnjlfnapefjaaGreatDoor
open Go Go.V
set_option maxRecDepth 10000
set_option linter.unusedVariables false
attribute [local irreducible] vBuild vCallV fmC
theorem foA_step {l : List Fm} {i : Nat} {x : Fm} (hx : l[i]? = some x) : foA (l.take i) (l.drop i) = (knownF x && !decide (x ∈ l.take i) && foA (l.take (i + 1)) (l.drop (i + 1))) := by
  obtain ⟨h1, h2⟩ := List.getElem?_eq_some_iff.1 hx
  rw [List.drop_eq_getElem_cons h1, h2, foA, List.take_add_one, hx]; rfl
set_option maxHeartbeats 4000000 in
theorem uRightOpen {o : Opn} (ho : okOp o) (hl : o.fams.length ≤ 140737488355328) : U Tryz.prog 32 [.agg (opC o)] (.bool (rightOp o)) := by
  intro σ Post hk
  have ol := opC_len ho
  have os := opC_sc (x := o)
  have oa := opC_all ho
  have og1 := opC_gasn ho
  have og2 := opC_gid ho
  have og3 := opC_ghold ho
  have og4 := opC_gfams ho
  have fl : (o.fams.map fmC).length = o.fams.length := List.length_map _
  have szl : ∀ e, e ∈ o.fams.map fmC → e.length = 2 := fun e he => by obtain ⟨f, _, rfl⟩ := List.mem_map.1 he; exact fmC_len ⟨trivial⟩
  refine T32 fun hB hA => ?_
  refine W ?_
  refine lp (fun j e s => ∃ (i g1 : Nat) (o1 : VObj), i + j = o.fams.length ∧ e 8 = .int .i64 i ∧ foA [] o.fams = foA (o.fams.take i) (o.fams.drop i) ∧ s = σ ++ [(1, VObj.box (opC o) false), (g1, o1)]) o.fams.length ⟨0, 0, .dead, by simp, rfl, rfl, rfl⟩ ?_
  rintro j u _ ⟨i, g1, o1, hi, e8, hn, rfl⟩
  by_cases hlt : i < o.fams.length
  · obtain ⟨x, hx⟩ : ∃ x, o.fams[i]? = some x := ⟨_, List.getElem?_eq_getElem hlt⟩
    have hg : (o.fams.map fmC)[(i : Int).toNat]? = some (fmC x) := by rw [Int.toNat_natCast, List.getElem?_map, hx]; rfl
    have xs := fmC_sc (x := x)
    have xl := fmC_len (x := x) ⟨trivial⟩
    have xa := fmC_all (x := x) ⟨trivial⟩
    have xz : splice [D.i 0, D.i 0] 0 (fmC x) = fmC x := spl_hd0 (by rw [xl]; rfl)
    rw [foA_step hx] at hn
    cases hkn : knownF x with
    | false =>
      rw [hkn] at hn
      have hf : rightOp o = false := by unfold rightOp; rw [hn]; rfl
      rw [hf] at hk
      have uk := uKnown (f := x)
      rw [hkn] at uk
      refine W ?_
      refine s1 uk ?_
      refine W ?_
      exact hk
    | true =>
      have uk := uKnown (f := x)
      rw [hkn] at uk hn
      by_cases hm : x ∈ o.fams.take i
      · rw [decide_eq_true hm] at hn
        have hf : rightOp o = false := by unfold rightOp; rw [hn]; rfl
        rw [hf] at hk
        have uc := uContF (l := o.fams.take i) (f := x) (by rw [List.length_take]; omega)
        rw [decide_eq_true hm] at uc
        refine W ?_
        refine s1 uk ?_
        refine W ?_
        refine sv1t rfl (y_call uc rfl) ?_
        refine W ?_
        exact hk
      · rw [decide_eq_false hm] at hn
        have uc := uContF (l := o.fams.take i) (f := x) (by rw [List.length_take]; omega)
        rw [decide_eq_false hm] at uc
        refine W ?_
        refine s1 uk ?_
        refine W ?_
        refine sv1t rfl (y_call uc rfl) ?_
        refine W ?_
        exact ⟨j - 1, by omega, i + 1, _, _, by omega, rfl, hn, rfl⟩
  · rw [List.take_of_length_le (by omega), List.drop_of_length_le (by omega), foA] at hn
    have hr : rightOp o = (routerF o.id && decide (1 ≤ o.asn) && decide (o.asn ≤ 4294967295) && (decide (o.hold = 0) || (decide (3 ≤ o.hold) && decide (o.hold < 65536)))) := by unfold rightOp; rw [hn]; rfl
    rw [hr] at hk
    refine W ?_
    refine cu (uRouter ho.id) ?_
    cases r : routerF o.id with
    | false =>
      refine W ?_
      exact fin hk (by rw [r]; rfl)
    | true =>
      by_cases a1 : 1 ≤ o.asn
      · by_cases a2 : o.asn ≤ 4294967295
        · by_cases h0 : o.hold = 0
          · refine W ?_
            exact fin hk (by simp [*])
          · by_cases h3 : 3 ≤ o.hold
            · by_cases h6 : o.hold < 65536
              · refine W ?_
                exact fin hk (by simp [*])
              · refine W ?_
                exact fin hk (by simp [*])
            · refine W ?_
              exact fin hk (by simp [*])
        · refine W ?_
          exact fin hk (by simp [*])
      · refine W ?_
        exact fin hk (by simp [*])
end Go.Proofs.YtocnjlfnapefjaaGreatDoor
