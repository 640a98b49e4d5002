/- Sessions: ticks of one that is up, in plain terms. -/
import Derived.Test.YtocnjlfnapefjaaGreatDoorT20
namespace Go.Proofs.YtocnjlfnapefjaaGreatDoor
open Go Go.V
set_option maxRecDepth 10000
set_option linter.unusedVariables false
theorem perm2 {α : Type} {u v : α} {N : List α} (h : N.Perm [u, v]) : N = [u, v] ∨ N = [v, u] := by
  match N, h.length_eq with
  | [a, b], _ =>
    have ha := h.mem_iff.1 (List.mem_cons_self : a ∈ [a, b])
    simp only [List.mem_cons, List.not_mem_nil, or_false] at ha
    rcases ha with rfl | rfl
    · have := List.perm_singleton.1 (List.Perm.cons_inv h)
      rw [this]; exact .inl rfl
    · have h2 := h.trans (List.Perm.swap a u [])
      have := List.perm_singleton.1 (List.Perm.cons_inv h2)
      rw [this]; exact .inr rfl
theorem do7 {S S' : Ses} (h : DoR (evZ 7) S S') : ∃ ss : List (List UInt8), ss.Perm (mdue S.m) ∧ S' = tickL (ss.mergeSort fun x y => decide (x ≤ y)) ((S0 S).sM (mtick S.m)) := by
  unfold DoR at h
  rwa [if_neg (fun e => absurd e.1 (by decide)), if_neg (by decide), if_neg (fun e => absurd e.1 (by decide)), if_neg (fun e => absurd e.1 (by decide)), if_neg (fun e => absurd e.1 (by decide)), if_neg (fun e => absurd e.1 (by decide)), if_pos (show (evZ 7).do_ = 7 from rfl)] at h
/-- Up, with what is left of both timers. -/
structure Beat (S : Ses) (H x y : Int) : Prop where
  st : S.st = 4
  hold : S.hold = H
  m : S.m = [(aliveN, x), (holdN, y)] ∨ S.m = [(holdN, y), (aliveN, x)]
theorem due2 {u v : List UInt8} {x y : Int} : mdue [(u, x), (v, y)] = (if x = 1 then [u] else []) ++ (if y = 1 then [v] else []) := by
  unfold mdue; by_cases h : x = 1 <;> by_cases k : y = 1 <;> simp [h, k]
theorem tick2 {u v : List UInt8} {x y : Int} : mtick [(u, x), (v, y)] = (if x = 1 then [] else [(u, x - 1)]) ++ (if y = 1 then [] else [(v, y - 1)]) := by
  unfold mtick; by_cases h : x = 1 <;> by_cases k : y = 1 <;> simp [h, k]
theorem tput_ok {n : List UInt8} {k : Int} {M : TM} (hk : 1 ≤ k) (hM : M.length < 32) : tput n k M = mput n k M := by
  unfold tput
  rw [if_pos]
  unfold startR
  rw [if_neg (by omega), if_neg (fun e => by have := e.2; omega)]
theorem mput2 {u v : List UInt8} {y z : Int} (h : v ≠ u) : mput u z [(v, y)] = [(u, z), (v, y)] := by
  unfold mput; simp [h]
theorem beat_go {S S' : Ses} {H x y : Int} (b : Beat S H x y) (ha : 1 ≤ H.tdiv 3) (hx : 1 ≤ x) (hy : 2 ≤ y) (d : DoR (evZ 7) S S') :
    S'.down = false ∧ ((2 ≤ x ∧ S'.send.length = 0 ∧ Beat S' H (x - 1) (y - 1)) ∨ (x = 1 ∧ S'.send.length = 1 ∧ Beat S' H (H.tdiv 3) (y - 1))) := by
  obtain ⟨ss, hp, rfl⟩ := do7 d
  have hy1 : ¬ y = 1 := by omega
  by_cases h1 : x = 1
  · subst h1
    have hd : ss.Perm [aliveN] := by rcases b.m with e | e <;> rw [e] at hp <;> simpa [due2, hy1] using hp
    have hm : mtick S.m = [(holdN, y - 1)] := by rcases b.m with e | e <;> rw [e] <;> simp [tick2, hy1]
    rw [List.perm_singleton.1 hd, List.mergeSort_singleton, hm]
    refine ⟨rfl, .inr ⟨rfl, rfl, b.st, b.hold, .inl ?_⟩⟩
    show tput aliveN (S.hold.tdiv 3) [(holdN, y - 1)] = _
    rw [b.hold, tput_ok ha (by simp), mput2 (by decide)]
  · have hd : ss.Perm [] := by rcases b.m with e | e <;> rw [e] at hp <;> simpa [due2, hy1, h1] using hp
    rw [List.perm_nil.1 hd, List.mergeSort_nil]
    refine ⟨rfl, .inl ⟨by omega, rfl, b.st, b.hold, ?_⟩⟩
    show mtick S.m = _ ∨ mtick S.m = _
    rcases b.m with e | e <;> rw [e] <;> simp [tick2, hy1, h1]
theorem beat_end {S S' : Ses} {H x : Int} (b : Beat S H x 1) (d : DoR (evZ 7) S S') : S'.st = 0 ∧ S'.down = true ∧ S'.close = true ∧ ∃ l, S'.send = l ++ [mNote ⟨4, 0, []⟩] ∧ l.length ≤ 1 := by
  obtain ⟨ss, hp, rfl⟩ := do7 d
  have fin : ∀ S1 : Ses, S1.st = 4 → S1.send.length ≤ 1 → (fallF ⟨4, 0, []⟩ S1).st = 0 ∧ (fallF ⟨4, 0, []⟩ S1).down = true ∧ (fallF ⟨4, 0, []⟩ S1).close = true ∧ ∃ l, (fallF ⟨4, 0, []⟩ S1).send = l ++ [mNote ⟨4, 0, []⟩] ∧ l.length ≤ 1 := by
    intro S1 h1 hl
    obtain ⟨l, e, k⟩ := fall_eq ⟨4, 0, []⟩ S1
    rw [e]
    exact ⟨rfl, by simp [h1], rfl, S1.send, k (by show (4 : Int) ≠ 0; decide), hl⟩
  have hh : ∀ (r : List (List UInt8)) (S1 : Ses), tickL (holdN :: r) S1 = fallF ⟨4, 0, []⟩ S1 := fun r S1 => by
    rw [tickL, if_neg (by decide), if_pos (.inl rfl)]
  have ha : ∀ (r : List (List UInt8)) (S1 : Ses), tickL (aliveN :: r) S1 = tickL r ((sendF mAlive S1).sM (tput aliveN (S1.hold.tdiv 3) S1.m)) := fun r S1 => by
    rw [tickL, if_pos rfl]
  by_cases h1 : x = 1
  · subst h1
    have hd : ss.Perm [aliveN, holdN] := by
      rcases b.m with e | e <;> rw [e] at hp
      · simpa [due2] using hp
      · exact (show ss.Perm [holdN, aliveN] by simpa [due2] using hp).trans (List.Perm.swap aliveN holdN [])
    rcases perm2 ((List.mergeSort_perm ss _).trans hd) with e | e <;> rw [e]
    · rw [ha, hh]
      exact fin _ b.st (by show ([] ++ [mAlive] : List Ms).length ≤ 1; decide)
    · rw [hh]
      exact fin _ b.st (by show ([] : List Ms).length ≤ 1; decide)
  · have hd : ss.Perm [holdN] := by rcases b.m with e | e <;> rw [e] at hp <;> simpa [due2, h1] using hp
    rw [List.perm_singleton.1 hd, List.mergeSort_singleton, hh]
    exact fin _ b.st (by show ([] : List Ms).length ≤ 1; decide)
theorem newPeer {h : Int} (hh : 3 ≤ h ∧ h ≤ 66) : newOk (peerP h) = true := by
  have h1 : foA [] [(⟨4, 5⟩ : Fm)] = true := by decide
  have h2 : routerF (a4 1) = true := by decide
  have h3 : okAd (a4 1) = true := by decide
  simp only [newOk, opsP, List.all_cons, List.all_nil, opP, peerP, rightOp, h1, h2, h3]
  simp
  omega
theorem sC_m {h o : Int} (hh : 3 ≤ minI h o ∧ minI h o ≤ 66) : (sC h o).st = 3 ∧ (sC h o).hold = minI h o ∧ (sC h o).m = [(aliveN, (minI h o).tdiv 3), (holdN, minI h o)] := by
  refine ⟨rfl, rfl, ?_⟩
  show tput aliveN ((minI h o).tdiv 3) (tput holdN (minI h o) []) = _
  rw [tput_ok (M := []) (by omega) (by simp), show mput holdN (minI h o) [] = [(holdN, minI h o)] from rfl, tput_ok (by rw [Int.tdiv_eq_ediv_of_nonneg (by omega)]; omega) (by simp), mput2 (by decide)]
theorem sD_beat {h o : Int} (hh : 3 ≤ minI h o ∧ minI h o ≤ 66) : Beat (sD h o) (minI h o) ((minI h o).tdiv 3) (minI h o) := by
  obtain ⟨a, b, c⟩ := sC_m hh
  have e : sD h o = ((((S0 (sC h o)).sSt 4).sUp true).sM (tput holdN (minI h o) (sC h o).m)) := rfl
  rw [e, c]
  refine ⟨rfl, b, .inr ?_⟩
  show tput holdN (minI h o) _ = _
  rw [tput_ok (by omega) (by simp)]
  unfold mput
  simp [show aliveN ≠ holdN by decide]
end Go.Proofs.YtocnjlfnapefjaaGreatDoor
