/- Sessions: the law SessionStops. -/
import Derived.Test.YtocnjlfnapefjaaGreatDoorT20
namespace Go.Proofs.YtocnjlfnapefjaaGreatDoor
open Go Go.V
set_option maxRecDepth 10000
set_option linter.unusedVariables false
attribute [local irreducible] vBuild vCallV
/-- Idle, and it stays so. -/
structure Quiet (S : Ses) : Prop where
  st : S.st = 0
  m : S.m = []
  so : S.stopped = true
/-- Nothing told. -/
structure Mute (S : Ses) : Prop where
  send : S.send = []
  dial : S.dial = false
  close : S.close = false
  up : S.up = false
  down : S.down = false
theorem mute_told {S : Ses} (h : Mute S) : toldC S = [.sl [], .bool false, .bool false, .bool false, .bool false] := by
  unfold toldC; rw [h.send, h.dial, h.close, h.up, h.down]; rfl
theorem quiet_stop {S : Ses} : Quiet (stopF (S0 S)) := by
  by_cases h2 : 2 ≤ S.st
  · have e1 : stopF (S0 S) = fallF ⟨6, 2, []⟩ ({ S0 S with stopped := true } : Ses) := by
      unfold stopF; exact if_pos h2
    rw [e1]
    obtain ⟨l, e, _⟩ := fall_eq ⟨6, 2, []⟩ ({ S0 S with stopped := true } : Ses)
    rw [e]
    exact ⟨rfl, rfl, rfl⟩
  · have e1 : stopF (S0 S) = stillF ({ S0 S with stopped := true } : Ses) := by
      unfold stopF; exact if_neg h2
    rw [e1]
    exact ⟨rfl, rfl, rfl⟩
theorem quiet_do {S S' : Ses} {ev : Ev} (q : Quiet S) (hn : ev.do_ ≠ 1) (d : DoR ev S S') : Quiet S' ∧ Mute S' := by
  have h0 := q.st
  unfold DoR at d
  rw [if_neg (fun e => hn e.1)] at d
  split at d
  · subst d
    refine ⟨quiet_stop, ?_⟩
    have e1 : stopF (S0 S) = stillF ({ S0 S with stopped := true } : Ses) := by
      unfold stopF; exact if_neg (by show ¬ 2 ≤ S.st; omega)
    rw [e1]
    exact ⟨rfl, rfl, rfl, rfl, rfl⟩
  rw [if_neg (fun e => by have := e.2; omega), if_neg (fun e => by have := e.2; omega), if_neg (fun e => by have := e.2; omega), if_neg (fun e => by have := e.2; omega)] at d
  split at d
  · obtain ⟨ss, hp, rfl⟩ := d
    rw [q.m] at hp ⊢
    rw [due_nil hp]
    exact ⟨⟨h0, rfl, q.so⟩, ⟨rfl, rfl, rfl, rfl, rfl⟩⟩
  · subst d
    exact ⟨⟨h0, q.m, q.so⟩, ⟨rfl, rfl, rfl, rfl, rfl⟩⟩
theorem start_told {S : Ses} : ∃ l, toldC (startF (S0 S)) = [.sl l, .bool true, .bool false, .bool false, .bool false] := ⟨_, rfl⟩
set_option maxHeartbeats 8000000 in
theorem uStops {p : Pr} {evs more : List Ev} (pk : okPr p) (lf : p.fams.length * 16 ≤ 140737488355328) (ok : ∀ e, e ∈ evs → OkE e) (ok2 : ∀ e, e ∈ more → OkE e) : U Tryz.prog 4 [.agg (prC p), .sl (evs.map evC), .sl (more.map evC)] (.bool true) := by
  intro σ Post hk
  have pl := prC_len pk
  have ps := prC_sc (x := p)
  have pa : cut (prC p) 0 (some 21) = some (.agg (prC p)) := prC_all pk
  refine T4 fun hB hA => ?_
  refine W ?_
  refine cu uSmall ?_
  refine W ?_
  refine ct ?_
  refine tNewS pk lf (fun hn σ1 O1 b kp hO a => ?_) (fun hn σ1 kp => ?_)
  case refine_2 =>
    obtain ⟨X1, rfl⟩ := keep_nil kp
    rw [List.append_assoc]
    refine W ?_
    exact hk
  obtain ⟨X1, rfl⟩ := keep_nil kp
  rw [List.append_assoc] at a ⊢
  have hO := len_app hO
  have hp := newHold hn
  obtain ⟨o1, box1⟩ := a.ex
  refine W ?_
  refine lp (fun j e s => ∃ (i : Nat) (S : Ses) (O : List Nat) (X : VHeap), e 1 = .sl (evs.map evC) ∧ e 2 = .sl (more.map evC) ∧ e 8 = .ptr b 1 0 ∧ e 10 = .int .i64 i ∧ i + j = evs.length ∧ s = σ ++ ([(1, .box (prC p) false), D.dd, D.dd] ++ X) ∧ At s O b S ∧ Inv p S ∧ ∀ i, i ∈ O → σ.length + 3 ≤ i) evs.length ⟨0, _, O1, X1, rfl, rfl, rfl, rfl, by simp, rfl, a, inv0, hO⟩ ?_
  clear a hO box1
  intro j u s' hI; revert hI; generalize mix _ u _ = E; rintro ⟨i, S, O, X, e1, e2, e8, e10, ij, rfl, a, iv, hO⟩
  have step : i < evs.length → ∃ ev, ev ∈ evs ∧ (evs.map evC)[(i : Int).toNat]? = some (evC ev) := fun hi => ⟨evs[i], List.getElem_mem hi, by rw [Int.toNat_natCast, List.getElem?_map, List.getElem?_eq_getElem hi]; rfl⟩
  obtain ⟨o1, box1⟩ := a.ex
  by_cases hc : i < evs.length ∧ (i : Int) < 80
  · obtain ⟨hi, h80⟩ := hc
    obtain ⟨ev, hmem, q1⟩ := step hi
    have oE := ok ev hmem
    have q2 : (evC ev).length = 58 := evC_len oE.ok
    have q3 : cut (evC ev) 0 (some 58) = some (.agg (evC ev)) := evC_all oE.ok
    refine W ?_
    refine ct ?_
    refine lDo (L := [(1, .box (prC p) false), D.dd, D.dd]) (by exact a) (by exact hO) iv hp lf oE fun X2 O2 S2 hO2 a2 d2 i2 r2 => ?_
    refine W ?_
    exact ⟨j - 1, by omega, i + 1, S2, O2, X2, by exact e1, by exact e2, by exact e8, by exact rfl, by omega, rfl, a2, i2, by exact hO2⟩
  by_cases hi : i < evs.length
  all_goals
    try have h80 : ¬ (i : Int) < 80 := fun h => hc ⟨hi, h⟩
    refine W ?_
    refine ct (vs := [.ptr b 1 0, .agg (evC (evZ 2))]) ?_ (hi := .pl inferInstance (.agg (.flat rfl) (.nil _))) (hv := rfl)
    refine lDo (L := [(1, .box (prC p) false), D.dd, D.dd]) (by exact a) (by exact hO) iv hp lf okEZ fun X2 O2 S2 hO2 a2 d2 i2 r2 => ?_
    have qq : Quiet S2 := by rw [do2 d2]; exact quiet_stop
    refine W ?_
    refine ct ?_
    refine tState a2 ?_
    rw [qq.st]
    refine W ?_
    refine lp (fun j e s => ∃ (i : Nat) (S : Ses) (O : List Nat) (g : Nat) (x : VObj) (X : VHeap), e 2 = .sl (more.map evC) ∧ e 8 = .ptr b 1 0 ∧ e 11 = .int .i64 i ∧ i + j = more.length ∧ s = σ ++ ([(1, .box (prC p) false), (g, x), D.dd] ++ X) ∧ At s O b S ∧ Inv p S ∧ Quiet S ∧ ∀ i, i ∈ O → σ.length + 3 ≤ i) more.length ⟨0, _, O2, 0, .dead, X2, by exact e2, by exact e8, rfl, by simp, rfl, a2, i2, qq, by exact hO2⟩ ?_
    clear a2 hO2 qq i2 r2 d2 a hO box1 iv
    intro j2 u2 s2 hI; revert hI; generalize mix _ u2 _ = E2; rintro ⟨i2, S3, O3, g, x, X3, f2, f8, f11, ij2, rfl, a, iv, qq, hO⟩
    have step2 : i2 < more.length → ∃ ev, ev ∈ more ∧ (more.map evC)[(i2 : Int).toNat]? = some (evC ev) := fun hi => ⟨more[i2], List.getElem_mem hi, by rw [Int.toNat_natCast, List.getElem?_map, List.getElem?_eq_getElem hi]; rfl⟩
    obtain ⟨o1, box1⟩ := a.ex
    by_cases hc2 : i2 < more.length ∧ (i2 : Int) < 80
    · obtain ⟨hi2, h802⟩ := hc2
      obtain ⟨ev, hmem, q1⟩ := step2 hi2
      have oE := ok2 ev hmem
      have q2 : (evC ev).length = 58 := evC_len oE.ok
      have q3 : cut (evC ev) 0 (some 58) = some (.agg (evC ev)) := evC_all oE.ok
      have q4 : cut (evC ev) 0 none = some (.int .i64 ev.do_) := evC_gdo_ oE.ok
      by_cases h1 : ev.do_ = 1
      · refine W ?_
        exact ⟨j2 - 1, by omega, i2 + 1, S3, O3, g, x, X3, by exact f2, by exact f8, by exact rfl, by omega, rfl, a, iv, qq, by exact hO⟩
      refine W ?_
      refine ct ?_
      refine lDo (L := [(1, .box (prC p) false), (g, x), D.dd]) (by exact a) (by exact hO) iv hp lf oE fun X4 O4 S4 hO4 a4 d4 i4 r4 => ?_
      obtain ⟨q5, mu⟩ := quiet_do qq h1 d4
      rw [mute_told mu]
      have a5 := at_loc (L' := [(1, VObj.box (prC p) false), (g + 1, .box [.sl [], .bool false, .bool false, .bool false, .bool false] false), D.dd]) a4 rfl hO4
      refine W ?_
      refine ct ?_
      refine tState (S := S4) (by exact a5) ?_
      rw [q5.st]
      refine W ?_
      exact ⟨j2 - 1, by omega, i2 + 1, S4, O4, g + 1, _, X4, by exact f2, by exact f8, by exact rfl, by omega, rfl, a5, i4, q5, by exact hO4⟩
    by_cases hi2 : i2 < more.length
    all_goals
      try have h802 : ¬ (i2 : Int) < 80 := fun h => hc2 ⟨hi2, h⟩
      refine W ?_
      refine ct (vs := [.ptr b 1 0, .agg (evC (evZ 1))]) ?_ (hi := .pl inferInstance (.agg (.flat rfl) (.nil _))) (hv := rfl)
      refine lDo (L := [(1, .box (prC p) false), (g, x), D.dd]) (by exact a) (by exact hO) iv hp lf okEZ fun X4 O4 S4 hO4 a4 d4 i4 r4 => ?_
      obtain ⟨l, tl⟩ := start_told (S := S3)
      have e4 := do1 d4 qq.st
      have st4 : S4.st = 1 := by rw [e4]; rfl
      rw [← e4] at tl
      rw [tl]
      have a5 := at_loc (L' := [(1, VObj.box (prC p) false), (g, x), (1, .box [.sl l, .bool true, .bool false, .bool false, .bool false] false)]) a4 rfl hO4
      refine W ?_
      refine ct ?_
      refine tState (S := S4) (by exact a5) ?_
      rw [st4]
      refine W ?_
      exact hk
end Go.Proofs.YtocnjlfnapefjaaGreatDoor
