/- Sessions: tick. -/
import Derived.Test.YtocnjlfnapefjaaGreatDoorT10
namespace Go.Proofs.YtocnjlfnapefjaaGreatDoor
open Go Go.V
set_option maxRecDepth 10000
set_option linter.unusedVariables false
attribute [local irreducible] vBuild vCallV
/-- What comes of the timers that are due, one by one. -/
def tickL : List (List UInt8) → Ses → Ses
  | [], S => S
  | n :: r, S => if n = aliveN then tickL r ((sendF mAlive S).sM (tput aliveN (S.hold.tdiv 3) S.m))
    else if n = holdN ∨ n = openN then fallF ⟨4, 0, []⟩ S
    else if n = idleN ∨ n = retryN then tickL r (dialF S)
    else tickL r S
theorem tickL_at {l : List (List UInt8)} {i : Nat} {n : List UInt8} (h : l[i]? = some n) (S : Ses) : tickL (l.drop i) S = if n = aliveN then tickL (l.drop (i + 1)) ((sendF mAlive S).sM (tput aliveN (S.hold.tdiv 3) S.m))
    else if n = holdN ∨ n = openN then fallF ⟨4, 0, []⟩ S
    else if n = idleN ∨ n = retryN then tickL (l.drop (i + 1)) (dialF S)
    else tickL (l.drop (i + 1)) S := by
  obtain ⟨h1, h2⟩ := List.getElem?_eq_some_iff.1 h
  rw [List.drop_eq_getElem_cons h1, h2]; rfl
set_option maxHeartbeats 8000000 in
theorem tTickS {σ : VHeap} {O : List Nat} {b : Nat} {S : Ses} {Post : KP} (h : At σ O b S) (hl : S.send.length ≤ 900) (hm : S.m.length ≤ 50) (hh : -9223372036854775808 ≤ S.hold ∧ S.hold ≤ 9223372036854775807)
    (k : ∀ (σ' : VHeap) (O' : List Nat) (ss : List (List UInt8)), Stp σ O σ' O' → ss.Perm (mdue S.m) → At σ' O' b (tickL (ss.mergeSort fun x y => decide (x ≤ y)) (S.sM (mtick S.m))) → Post (.tup []) σ') : T Tryz.prog 31 [.ptr b 1 0] σ Post := by
  obtain ⟨tm, mid, fv, sv, h⟩ := h
  have hc := h.okc
  have box := h.box
  have bl := vGet_lt box
  have g1 : cut (scC (S.c tm fv sv)) 23 none = some (.ptr tm 1 0) := scC_gtm hc
  have out0 : ∀ (O' : List Nat) (n : Nat), Out O' n 0 := fun O' n i _ => by omega
  have a1 := h.big []
  refine T31 ?_
  refine W ?_
  refine ct ?_
  refine tTick a1.t (by omega) fun σ2 ss K2 t2 hp => ?_
  have a2 := a1.tmr K2 t2
  have st2 := (Stp.big σ O []).trans (a1.stp K2)
  obtain ⟨σ3, X3, rfl, hl3, -⟩ := (a1.stp K2).split (L := []) (X := []) (out0 _ _)
  have sl : ss.length ≤ 50 := by
    rw [hp.length_eq]; unfold mdue; rw [List.length_map]; exact Nat.le_trans (List.length_filter_le _ _) hm
  generalize hN : (ss.mergeSort fun x y => decide (x ≤ y)) = N at *
  have nl : N.length ≤ 50 := by rw [← hN, List.length_mergeSort]; exact sl
  have nl2 : (strRow N).length = N.length := List.length_map _
  refine W ?_
  refine lp (fun j e s => ∃ (i : Nat) (S' : Ses) (O' : List Nat) (σ' X : VHeap), e 0 = .ptr b 1 0 ∧ e 8 = .sl (strRow N) ∧ e 9 = .int .i64 N.length ∧ e 10 = .int .i64 i ∧ i + j = N.length ∧ s = σ' ++ X ∧ σ'.length = σ.length ∧ Stp σ O s O' ∧ At s O' b S' ∧ tickL N (S.sM (mtick S.m)) = tickL (N.drop i) S' ∧ S'.send.length ≤ 900 + i ∧ S'.hold = S.hold) N.length ⟨0, _, O, σ3, X3, rfl, rfl, by first | rfl | (rw [← nl2]; rfl), rfl, by simp, rfl, hl3, st2, ⟨_, _, _, _, a2⟩, rfl, hl, rfl⟩ ?_
  intro j u s' hI
  revert hI
  generalize mix _ u _ = E
  rintro ⟨i, S', O', σ', X, e0, e8, e9, e10, hij, rfl, hl', st', at', eT, hs', hd'⟩
  by_cases hlt : i < N.length
  · obtain ⟨n, hn⟩ : ∃ n, N[i]? = some n := ⟨_, List.getElem?_eq_getElem hlt⟩
    have hg : (strRow N)[(i : Int).toNat]? = some [.str n] := by rw [Int.toNat_natCast, List.getElem?_map, hn]; rfl
    rw [tickL_at hn] at eT
    by_cases c1 : n = aliveN
    · rw [if_pos c1] at eT
      have q1 : sbin .eql n [97, 108, 105, 118, 101] = some (.bool true) := sb_eqlT c1
      refine W ?_
      refine ct (vs := [.ptr b 1 0, .agg (msC mAlive)]) ?_ (hi := .pl inferInstance (.agg (.flat aliveL_plB) (.nil _))) (hv := congrArg (fun x => [PV.ptr b 1 0, PV.agg x]) aliveL_nz)
      refine tSend at' mAlive_ok (by omega) fun σ4 O4 st4 at4 => ?_
      obtain ⟨σ5, X5, rfl, hl5, -⟩ := st4.split (L := []) (out0 _ _)
      rw [hl'] at hl5
      obtain ⟨tm5, mid5, fv5, sv5, c5⟩ := at4
      have box5 := c5.box
      have g5 : cut (scC ((sendF mAlive S').c tm5 fv5 sv5)) 23 none = some (.ptr tm5 1 0) := scC_gtm c5.okc
      have g6 : cut (scC ((sendF mAlive S').c tm5 fv5 sv5)) 41 none = some (.int .i64 S'.hold) := scC_ghold c5.okc
      have iq := ib_quo3 (h := S'.hold) (by rw [hd']; exact hh.1) (by rw [hd']; exact hh.2)
      have hq7 : S'.hold.tdiv 3 ≤ 9223372036854775807 := by
        rcases Int.lt_or_le S'.hold 0 with h2 | h2
        · have := (tdiv3 S'.hold).2.2 (by omega); omega
        · have := (tdiv3 S'.hold).2.1 h2; omega
      refine W ?_
      refine sv_0 ?_
      refine ct ?_
      refine tStart (name := aliveN) c5.t hq7 fun σ6 K6 t6 => ?_
      have c6 := c5.tmr K6 t6
      have st6 := c5.stp K6
      obtain ⟨σ7, X7, rfl, hl7, -⟩ := st6.split (L := []) (out0 _ _)
      rw [hl5] at hl7
      refine st_end ⟨trivial, sv_nil ?_⟩
      refine W ?_
      refine ⟨j - 1, by omega, i + 1, (sendF mAlive S').sM (tput aliveN (S'.hold.tdiv 3) S'.m), O4, σ7, X7, e0, e8, e9, rfl, by omega, rfl, hl7, st'.trans (st4.trans st6), ⟨_, _, _, _, c6⟩, eT, ?_, hd'⟩
      show (S'.send ++ [mAlive]).length ≤ _
      rw [List.length_append, List.length_singleton]; omega
    rw [if_neg c1] at eT
    have q1 : sbin .eql n [97, 108, 105, 118, 101] = some (.bool false) := by rw [sb_eql]; exact congrArg (some ∘ PV.bool) (decide_eq_false c1)
    by_cases c2 : n = holdN
    · rw [if_pos (.inl c2)] at eT
      have q2 : sbin .eql n [104, 111, 108, 100] = some (.bool true) := sb_eqlT c2
      refine W ?_
      refine ct (vs := [.ptr b 1 0, .agg (ntC ⟨4, 0, []⟩)]) ?_ (hi := .pl inferInstance (.agg (.flat rfl) (.nil _))) (hv := rfl)
      refine tFall at' (by omega) (by simp) fun σ4 O4 st4 at4 => ?_
      refine W ?_
      exact k _ O4 ss (st'.trans st4) hp (by rw [hN, eT]; exact at4)
    have q2 : sbin .eql n [104, 111, 108, 100] = some (.bool false) := by rw [sb_eql]; exact congrArg (some ∘ PV.bool) (decide_eq_false c2)
    by_cases c3 : n = openN
    · rw [if_pos (.inr c3)] at eT
      have q3 : sbin .eql n [111, 112, 101, 110] = some (.bool true) := sb_eqlT c3
      refine W ?_
      refine ct (vs := [.ptr b 1 0, .agg (ntC ⟨4, 0, []⟩)]) ?_ (hi := .pl inferInstance (.agg (.flat rfl) (.nil _))) (hv := rfl)
      refine tFall at' (by omega) (by simp) fun σ4 O4 st4 at4 => ?_
      refine W ?_
      exact k _ O4 ss (st'.trans st4) hp (by rw [hN, eT]; exact at4)
    have q3 : sbin .eql n [111, 112, 101, 110] = some (.bool false) := by rw [sb_eql]; exact congrArg (some ∘ PV.bool) (decide_eq_false c3)
    rw [if_neg (by rintro (h | h); exact c2 h; exact c3 h)] at eT
    by_cases c4 : n = idleN
    · rw [if_pos (.inl c4)] at eT
      have q4 : sbin .eql n [105, 100, 108, 101] = some (.bool true) := sb_eqlT c4
      refine W ?_
      refine ct ?_
      refine tDial at' fun σ4 O4 st4 at4 => ?_
      obtain ⟨σ5, X5, rfl, hl5, -⟩ := st4.split (L := []) (out0 _ _)
      rw [hl'] at hl5
      refine W ?_
      exact ⟨j - 1, by omega, i + 1, dialF S', O4, σ5, X5, e0, e8, e9, rfl, by omega, rfl, hl5, st'.trans st4, at4, eT, by show S'.send.length ≤ _; omega, hd'⟩
    have q4 : sbin .eql n [105, 100, 108, 101] = some (.bool false) := by rw [sb_eql]; exact congrArg (some ∘ PV.bool) (decide_eq_false c4)
    by_cases c5 : n = retryN
    · rw [if_pos (.inr c5)] at eT
      have q5 : sbin .eql n [114, 101, 116, 114, 121] = some (.bool true) := sb_eqlT c5
      refine W ?_
      refine ct ?_
      refine tDial at' fun σ4 O4 st4 at4 => ?_
      obtain ⟨σ5, X5, rfl, hl5, -⟩ := st4.split (L := []) (out0 _ _)
      rw [hl'] at hl5
      refine W ?_
      exact ⟨j - 1, by omega, i + 1, dialF S', O4, σ5, X5, e0, e8, e9, rfl, by omega, rfl, hl5, st'.trans st4, at4, eT, by show S'.send.length ≤ _; omega, hd'⟩
    have q5 : sbin .eql n [114, 101, 116, 114, 121] = some (.bool false) := by rw [sb_eql]; exact congrArg (some ∘ PV.bool) (decide_eq_false c5)
    rw [if_neg (by rintro (h | h); exact c4 h; exact c5 h)] at eT
    refine W ?_
    exact ⟨j - 1, by omega, i + 1, S', O', σ', X, e0, e8, e9, rfl, by omega, rfl, hl', st', at', eT, by omega, hd'⟩
  · have hi : i = N.length := by omega
    rw [hi, List.drop_length] at eT
    refine W ?_
    refine ret_n (v := .tup []) (.inr rfl) rfl rfl inferInstance ?_
    exact k _ O' ss st' hp (by rw [hN, eT]; exact at')
end Go.Proofs.YtocnjlfnapefjaaGreatDoor
