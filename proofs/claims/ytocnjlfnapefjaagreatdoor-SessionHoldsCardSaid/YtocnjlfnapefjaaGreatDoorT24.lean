/- Sessions: the law SessionHolds. -/
import Derived.Test.YtocnjlfnapefjaaGreatDoorT23
namespace Go.Proofs.YtocnjlfnapefjaaGreatDoor
open Go Go.V
set_option maxRecDepth 10000
set_option linter.unusedVariables false
attribute [local irreducible] vBuild vCallV
theorem and63 (a : Int) : ∃ v : Int, ibin .and .i64 a .i64 63 = some (.int .i64 v) ∧ 0 ≤ v ∧ v ≤ 63 := by
  have h : (BitVec.ofInt 64 a &&& BitVec.ofInt 64 63).toNat ≤ 63 := by
    rw [BitVec.toNat_and]
    exact Nat.le_trans Nat.and_le_right (by decide)
  refine ⟨((BitVec.ofInt 64 a &&& BitVec.ofInt 64 63).toNat : Int), ?_, by omega, by omega⟩
  show some (PV.int .i64 (IntKind.i64.wrap ((BitVec.ofInt 64 a &&& BitVec.ofInt 64 63).toNat : Int))) = _
  rw [w_i64 (by omega) (by omega)]
theorem minI_b {a b : Int} (ha : 3 ≤ a ∧ a ≤ 66) (hb : 3 ≤ b ∧ b ≤ 66) : 3 ≤ minI a b ∧ minI a b ≤ 66 := by unfold minI; split <;> omega
set_option maxHeartbeats 8000000 in
theorem uHolds {x y : Int} : U Tryz.prog 3 [.int .i64 x, .int .i64 y] (.bool true) := by
  intro σ Post hk
  obtain ⟨v, bv, v0, v1⟩ := and63 x
  obtain ⟨u, bu, u0, u1⟩ := and63 y
  have hv : 3 ≤ 3 + v ∧ 3 + v ≤ 66 := by omega
  have hu : 3 ≤ 3 + u ∧ 3 + u ≤ 66 := by omega
  have pv : ibin .add .i64 3 .i64 v = some (.int .i64 (3 + v)) := by
    show some (PV.int .i64 (IntKind.i64.wrap (3 + v))) = _
    rw [w_i64 (by omega) (by omega)]
  have pu : ibin .add .i64 3 .i64 u = some (.int .i64 (3 + u)) := by
    show some (PV.int .i64 (IntKind.i64.wrap (3 + u))) = _
    rw [w_i64 (by omega) (by omega)]
  generalize 3 + v = h at *
  generalize 3 + u = o at *
  have hn := newPeer hv
  have hp := newHold hn
  have lf : (peerP h).fams.length * 16 ≤ 140737488355328 := by show 1 * 16 ≤ 140737488355328; decide
  have hm := minI_b hv hu
  have pk : okPr (peerP h) := ⟨rfl⟩
  have pl := prC_len pk
  have ps := prC_sc (x := peerP h)
  have pa : cut (prC (peerP h)) 0 (some 21) = some (.agg (prC (peerP h))) := prC_all pk
  have pany : splice [D.i 0, D.i 0, D.b 0, D.b 0, D.b 0, D.b 0, D.b 0, D.b 0, D.b 0, D.b 0, D.b 0, D.b 0, D.b 0, D.b 0, D.b 0, D.b 0, D.b 0, D.b 0, D.i 0, D.i 0, .nils] 0 (prC (peerP h)) = prC (peerP h) := rfl
  refine T3 fun hB hA => ?_
  refine W ?_
  refine cu uSmall ?_
  refine W ?_
  refine cu (uPeer (h := h)) ?_
  refine W ?_
  refine ct ?_
  refine tNewS pk lf (fun _ σ1 O1 b kp hO a => ?_) (fun hf => by rw [hn] at hf; cases hf)
  obtain ⟨X1, rfl⟩ := keep_nil kp
  rw [List.append_assoc] at a ⊢
  have hO := len_app hO
  obtain ⟨o1, box1⟩ := a.ex
  refine W ?_
  refine ct (vs := [.ptr b 1 0, .agg (evC (evZ 1))]) ?_ (hi := .pl inferInstance (.agg (.flat rfl) (.nil _))) (hv := rfl)
  refine lDo a hO inv0 hp lf okEZ fun X2 O2 S2 hO2 a2 d2 i2 r2 => ?_
  have e2 : S2 = sA h := do1 d2 rfl
  subst e2
  clear box1
  refine W ?_
  refine ct (vs := [.ptr b 1 0, .agg (evC (evZ 3))]) ?_ (hi := .pl inferInstance (.agg (.flat rfl) (.nil _))) (hv := rfl)
  refine lDo a2 hO2 i2 hp lf okEZ fun X3 O3 S3 hO3 a3 d3 i3 r3 => ?_
  have e3 : S3 = sB h := do3 d3 rfl
  subst e3
  refine W ?_
  refine cu uV42 ?_
  refine W ?_
  refine ct (vs := [.ptr b 1 0, .agg (evC (evO o))]) ?_ (hi := .pl inferInstance (.agg (.flat rfl) (.nil _))) (hv := rfl)
  refine lDo a3 hO3 i3 hp lf (okEO (by omega)) fun X4 O4 S4 hO4 a4 d4 i4 r4 => ?_
  have e4 : S4 = sC h o := do5 d4 rfl (by show (2 : Int) ≤ 2; decide)
  subst e4
  refine W ?_
  refine ct (vs := [.ptr b 1 0, .agg (evC evK)]) ?_ (hi := .pl inferInstance (.agg (.flat rfl) (.nil _))) (hv := rfl)
  refine lDo a4 hO4 i4 hp lf okEK fun X5 O5 S5 hO5 a5 d5 i5 r5 => ?_
  have e5 : S5 = sD h o := do5 d5 rfl (by show (2 : Int) ≤ 3; decide)
  subst e5
  have bt := sD_beat hm
  generalize hH : minI h o = H at *
  have ha1 : 1 ≤ H.tdiv 3 := by rw [Int.tdiv_eq_ediv_of_nonneg (by omega)]; omega
  have ha3 : 3 * H.tdiv 3 ≤ H := by rw [Int.tdiv_eq_ediv_of_nonneg (by omega)]; omega
  refine W ?_
  refine lp (fun j e s => ∃ (i : Nat) (S : Ses) (O : List Nat) (g : Nat) (z : VObj) (X : VHeap) (l : Int) (n : Nat), e 7 = .ptr b 1 0 ∧ e 9 = .int .i64 H ∧ e 10 = .int .i64 n ∧ e 11 = .int .i64 i ∧ (i : Int) + j = H ∧ 1 ≤ i ∧ s = σ ++ ([(1, .box (prC (peerP h)) false), (g, z), D.dd] ++ X) ∧ At s O b S ∧ Inv (peerP h) S ∧ (∀ i, i ∈ O → σ.length + 3 ≤ i) ∧ Beat S H l (H - i + 1) ∧ 1 ≤ l ∧ ((n = 0 ∧ (i : Int) - 1 + l = H.tdiv 3) ∨ (n = 1 ∧ (i : Int) - 1 + l = 2 * H.tdiv 3) ∨ 2 ≤ n) ∧ n ≤ i) (H - 1).toNat ⟨1, _, O5, 0, .dead, X5, _, 0, by exact rfl, by exact congrArg (PV.int .i64) hH, rfl, rfl, by omega, by omega, rfl, a5, i5, by exact hO5, by rw [show H - ((1 : Nat) : Int) + 1 = H by omega]; exact bt, ha1, .inl ⟨rfl, by omega⟩, by omega⟩ ?_
  clear a hO a2 hO2 a3 hO3 a4 hO4 a5 hO5 bt i2 i3 i4 i5 d2 d3 d4 d5 r2 r3 r4 r5
  intro j w s' hI; revert hI; generalize mix _ w _ = E; rintro ⟨i, S, O, g, z, X, l, n, e7, e9, e10, e11, ij, i1, rfl, a, iv, hO, bt, hl, hc, hni⟩
  have pany : True := trivial
  by_cases hi : (i : Int) < H
  · refine W ?_
    refine ct (vs := [.ptr b 1 0, .agg (evC (evZ 7))]) ?_ (hi := .pl inferInstance (.agg (.flat rfl) (.nil _))) (hv := rfl)
    refine lDo (L := [(1, .box (prC (peerP h)) false), (g, z), D.dd]) (by exact a) (by exact hO) iv hp lf okEZ fun X2 O2 S2 hO2 a2 d2 i2 r2 => ?_
    obtain ⟨dn, hh⟩ := beat_go bt ha1 hl (by omega) d2
    have st2 : S2.st = 4 := by rcases hh with ⟨_, _, h⟩ | ⟨_, _, h⟩ <;> exact h.st
    have y1 : H - (i : Int) + 1 - 1 = H - ((i + 1 : Nat) : Int) + 1 := by omega
    rw [y1] at hh
    have tt : toldC S2 = [.sl (S2.send.map msC), .bool S2.dial, .bool S2.close, .bool S2.up, .bool false] := by unfold toldC; rw [dn]
    rw [tt]
    have a3 : At (σ ++ ([(1, VObj.box (prC (peerP h)) false), (g + 1, .box [.sl (S2.send.map msC), .bool S2.dial, .bool S2.close, .bool S2.up, .bool false] false), D.dd] ++ X2)) O2 b S2 := at_loc a2 rfl hO2
    have hlen : (S2.send.map msC).length ≤ 1 := by rw [List.length_map]; rcases hh with ⟨_, h, _⟩ | ⟨_, h, _⟩ <;> omega
    have badd : ibin .add .i64 (n : Int) .i64 ((S2.send.map msC).length : Int) = some (.int .i64 ((n + (S2.send.map msC).length : Nat) : Int)) := by
      show some (PV.int .i64 (IntKind.i64.wrap _)) = _
      rw [w_i64 (by omega) (by omega), Int.natCast_add]
    refine W ?_
    refine ct ?_
    refine tState (S := S2) (by exact a3) ?_
    rw [st2]
    refine W ?_
    rcases hh with ⟨x2, sl, bt2⟩ | ⟨x1, sl, bt2⟩
    · exact ⟨j - 1, by omega, i + 1, S2, O2, g + 1, _, X2, l - 1, n, by exact e7, by exact e9, by exact congrArg (PV.int .i64) (show (n : Int) + (S2.send.length : Int) = n by omega), by exact rfl, by omega, by omega, rfl, a3, i2, by exact hO2, bt2, by omega, by omega, by omega⟩
    · exact ⟨j - 1, by omega, i + 1, S2, O2, g + 1, _, X2, H.tdiv 3, n + 1, by exact e7, by exact e9, by exact congrArg (PV.int .i64) (show (n : Int) + (S2.send.length : Int) = ((n + 1 : Nat) : Int) by omega), by exact rfl, by omega, by omega, rfl, a3, i2, by exact hO2, bt2, by omega, by omega, by omega⟩
  · have hiH : (i : Int) = H := by omega
    have y1 : H - (i : Int) + 1 = 1 := by omega
    rw [y1] at bt
    have n2 : 2 ≤ n := by omega
    refine W ?_
    refine ct (vs := [.ptr b 1 0, .agg (evC (evZ 7))]) ?_ (hi := .pl inferInstance (.agg (.flat rfl) (.nil _))) (hv := rfl)
    refine lDo (L := [(1, .box (prC (peerP h)) false), (g, z), D.dd]) (by exact a) (by exact hO) iv hp lf okEZ fun X2 O2 S2 hO2 a2 d2 i2 r2 => ?_
    obtain ⟨st2, dn, cl, q, sd, lq⟩ := beat_end bt d2
    have tt : toldC S2 = [.sl (S2.send.map msC), .bool S2.dial, .bool true, .bool S2.up, .bool true] := by unfold toldC; rw [dn, cl]
    have fin : ∀ v, At (σ ++ ([(1, VObj.box (prC (peerP h)) false), (g, z), (1, .box v false)] ++ X2)) O2 b S2 := fun v => at_loc (L' := [(1, VObj.box (prC (peerP h)) false), (g, z), (1, .box v false)]) a2 rfl hO2
    have n2' : (2 : Int) ≤ n := by omega
    obtain ⟨c, hc0⟩ : ∃ c, c = msC (mNote ⟨4, 0, []⟩) := ⟨_, rfl⟩
    have q1 : c.length = 53 := by rw [hc0]; rfl
    have q2 : cut c 0 none = some (.int .i64 3) := by rw [hc0]; rfl
    have q3 : cut c 48 none = some (.int .i64 4) := by rw [hc0]; rfl
    rcases q with _ | ⟨m1, _ | ⟨m2, q⟩⟩
    · have t2 : toldC S2 = [.sl [c], .bool S2.dial, .bool true, .bool S2.up, .bool true] := by rw [tt, sd, hc0]; rfl
      rw [t2]
      have w0 : IntKind.i64.wrap (([c].length : Int) - 1) = 0 := by show IntKind.i64.wrap ((1 : Int) - 1) = 0; decide
      have w1 : (0 : Int) ≤ IntKind.i64.wrap (([c].length : Int) - 1) := by rw [w0]; decide
      have w2 : [c][(IntKind.i64.wrap (([c].length : Int) - 1)).toNat]? = some c := by rw [w0]; rfl
      refine W ?_
      refine ct ?_
      refine tState (S := S2) (by exact fin _) ?_
      rw [st2]
      refine W ?_
      exact hk
    · have t2 : toldC S2 = [.sl [msC m1, c], .bool S2.dial, .bool true, .bool S2.up, .bool true] := by rw [tt, sd, hc0]; rfl
      rw [t2]
      generalize msC m1 = c1
      have w0 : IntKind.i64.wrap (([c1, c].length : Int) - 1) = 1 := by show IntKind.i64.wrap ((2 : Int) - 1) = 1; decide
      have w1 : (0 : Int) ≤ IntKind.i64.wrap (([c1, c].length : Int) - 1) := by rw [w0]; decide
      have w2 : [c1, c][(IntKind.i64.wrap (([c1, c].length : Int) - 1)).toNat]? = some c := by rw [w0]; rfl
      refine W ?_
      refine ct ?_
      refine tState (S := S2) (by exact fin _) ?_
      rw [st2]
      refine W ?_
      exact hk
    · exfalso; simp at lq
end Go.Proofs.YtocnjlfnapefjaaGreatDoor
