/- Sessions: the law SessionTurns. -/
import Derived.Test.YtocnjlfnapefjaaGreatDoorT20
namespace Go.Proofs.YtocnjlfnapefjaaGreatDoor
open Go Go.V
set_option maxRecDepth 10000
set_option linter.unusedVariables false
attribute [local irreducible] vBuild vCallV
set_option maxHeartbeats 8000000 in
theorem uTurns {p : Pr} {evs : List Ev} (pk : okPr p) (lf : p.fams.length * 16 ≤ 140737488355328) (ok : ∀ e, e ∈ evs → OkE e) : U Tryz.prog 6 [.agg (prC p), .sl (evs.map evC)] (.bool true) := by
  intro σ Post hk
  have pl := prC_len pk
  have ps := prC_sc (x := p)
  have pa : cut (prC p) 0 (some 21) = some (.agg (prC p)) := prC_all pk
  refine T6 fun hB hA => ?_
  refine W ?_
  refine cu uSmall ?_
  refine W ?_
  refine ct ?_
  refine tNewS pk lf (fun hn σ1 O1 b kp hO a => ?_) (fun hn σ1 kp => ?_)
  case refine_2 =>
    obtain ⟨X1, rfl⟩ := keep_nil kp
    rw [List.append_assoc]
    refine W ?_
    exact hk
  obtain ⟨X1, rfl⟩ := keep_nil kp
  rw [List.append_assoc] at a ⊢
  have hO := len_app hO
  have hp := newHold hn
  obtain ⟨o1, box1⟩ := a.ex
  refine W ?_
  refine lp (fun j e s => ∃ (i : Nat) (S : Ses) (O : List Nat) (g : Nat) (x : VObj) (X : VHeap), e 1 = .sl (evs.map evC) ∧ e 6 = .ptr b 1 0 ∧ e 8 = .int .i64 i ∧ i + j = evs.length ∧ s = σ ++ ([(1, .box (prC p) false), (g, x)] ++ X) ∧ At s O b S ∧ Inv p S ∧ ∀ i, i ∈ O → σ.length + 2 ≤ i) evs.length ⟨0, _, O1, 0, .dead, X1, rfl, rfl, rfl, by simp, rfl, a, inv0, hO⟩ ?_
  intro j u s' hI; revert hI; generalize mix _ u _ = E; rintro ⟨i, S, O, g, x, X, e1, e6, e8, ij, rfl, a, iv, hO⟩
  have st := iv.st
  by_cases hi : i < evs.length
  case neg =>
    refine W ?_
    exact hk
  by_cases h150 : (i : Int) < 150
  case neg =>
    refine W ?_
    exact hk
  obtain ⟨ev, hev, hmem⟩ : ∃ ev, evs[i]? = some ev ∧ ev ∈ evs := ⟨evs[i], List.getElem?_eq_getElem hi, List.getElem_mem hi⟩
  have oE := ok ev hmem
  have q1 : (evs.map evC)[(i : Int).toNat]? = some (evC ev) := by rw [Int.toNat_natCast, List.getElem?_map, hev]; rfl
  have q2 : (evC ev).length = 58 := evC_len oE.ok
  have q3 : cut (evC ev) 0 (some 58) = some (.agg (evC ev)) := evC_all oE.ok
  refine W ?_
  refine ct ?_
  refine tState a ?_
  refine W ?_
  refine ct ?_
  refine lDo (L := [(1, .box (prC p) false), (g, x)]) (by exact a) (by exact hO) iv hp lf oE fun X2 O2 S2 hO2 a2 d2 i2 r2 => ?_
  have st2 := i2.st
  have rc := r2.close
  have rd := r2.dial
  have a3 : ∀ v, At (σ ++ ([(1, VObj.box (prC p) false), (g + 1, .box v false)] ++ X2)) O2 b S2 := fun v => at_loc (L' := [(1, VObj.box (prC p) false), (g + 1, .box v false)]) a2 rfl hO2
  by_cases h4 : S.st = 4 <;> by_cases h5 : S2.st = 4 <;> cases hc : S2.close <;> cases hd : S2.dial <;> simp only [hc, hd, forall_const, Bool.false_eq_true, false_implies] at rc rd <;> (try (exfalso; omega))
  all_goals
    have tt : toldC S2 = [.sl (S2.send.map msC), .bool S2.dial, .bool S2.close, .bool (!decide (S.st = 4) && decide (S2.st = 4)), .bool (decide (S.st = 4) && !decide (S2.st = 4))] := by
      unfold toldC; rw [r2.up, r2.down]; simp
    rw [hc, hd] at tt
    first | rw [decide_eq_true h4] at tt | rw [decide_eq_false h4] at tt
    first | rw [decide_eq_true h5] at tt | rw [decide_eq_false h5] at tt
    have tt := tt
    simp only [Bool.not_true, Bool.not_false, Bool.true_and, Bool.false_and] at tt
    rw [tt]
    clear tt
    refine W ?_
    refine ct ?_
    refine tState (S := S2) (by exact a3 _) ?_
    by_cases h3 : S2.st < 3
    case neg =>
      first
      | (exfalso; omega)
      | (refine W ?_
         exact ⟨j - 1, by omega, i + 1, S2, O2, g + 1, _, X2, by exact e1, by exact e6, by exact rfl, by omega, rfl, a3 _, i2, by exact hO2⟩)
    first
    | (exfalso; omega)
    | (obtain ⟨l1, l2, l3⟩ := i2.lo h3
       refine W ?_
       refine ct ?_
       refine tHold (S := S2) (by exact a3 _) ?_
       rw [l1]
       refine W ?_
       refine ct ?_
       refine tFams (S := S2) (O := O2) (by exact a3 _) (by rw [l2]; decide) fun σ3 st3 a4 => ?_
       obtain ⟨X3, rfl, hO3⟩ := stp_new (L := [(1, VObj.box (prC p) false), (g + 1, _)]) st3 (by exact hO2)
       rw [l2]
       refine W ?_
       refine ct ?_
       refine tId (S := S2) (by exact a4) ?_
       rw [l3]
       refine W ?_
       exact ⟨j - 1, by omega, i + 1, S2, O2, g + 1, _, X3, by exact e1, by exact e6, by exact rfl, by omega, rfl, a4, i2, by exact hO3⟩)
end Go.Proofs.YtocnjlfnapefjaaGreatDoor
