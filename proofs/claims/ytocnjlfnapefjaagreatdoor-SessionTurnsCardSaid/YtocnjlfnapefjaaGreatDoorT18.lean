/- Sessions: the plain law of Do. -/
import Derived.Test.YtocnjlfnapefjaaGreatDoorT17
namespace Go.Proofs.YtocnjlfnapefjaaGreatDoor
open Go Go.V
set_option maxRecDepth 10000
set_option linter.unusedVariables false
/-- At most one timer, of this name. -/
def One (x : List UInt8) (M : TM) : Prop := M = [] ∨ ∃ k, M = [(x, k)]
/-- Only these two. -/
def Two (M : TM) : Prop := (∀ e, e ∈ M → e.1 = holdN ∨ e.1 = aliveN) ∧ (M.map (·.1)).Nodup
structure Inv (p : Pr) (S : Ses) : Prop where
  pp : S.p = p
  st : 0 ≤ S.st ∧ S.st ≤ 4
  t0 : S.st = 0 → S.m = [] ∨ (S.stopped = false ∧ ∃ k, S.m = [(idleN, k)])
  t1 : S.st = 1 → One retryN S.m
  t2 : S.st = 2 → One openN S.m
  t3 : 3 ≤ S.st → Two S.m
  lo : S.st < 3 → S.hold = 0 ∧ S.fams = [] ∧ S.oid = ad0
  hd : -9223372036854775808 ≤ S.hold ∧ S.hold ≤ 9223372036854775807
  fl : S.fams.length ≤ S.p.fams.length
/-- What Do tells, held against the states. -/
structure Rel (S S' : Ses) : Prop where
  up : S'.up = decide (S.st ≠ 4 ∧ S'.st = 4)
  down : S'.down = decide (S.st = 4 ∧ S'.st ≠ 4)
  close : S'.close = true → 2 ≤ S.st ∧ S'.st = 0
  dial : S'.dial = true → S'.st = 1
theorem two_nil : Two [] := ⟨fun _ h => by simp at h, by simp⟩
theorem two_mput {n : List UInt8} {k : Int} {M : TM} (h : Two M) (hn : n = holdN ∨ n = aliveN) : Two (mput n k M) := by
  refine ⟨fun e he => ?_, ?_⟩
  · rcases List.mem_cons.1 he with rfl | he
    · exact hn
    · exact h.1 e (List.mem_filter.1 he).1
  · unfold mput
    rw [List.map_cons, List.nodup_cons]
    refine ⟨fun hm => ?_, h.2.sublist (List.filter_sublist.map _)⟩
    obtain ⟨x, hx, hx2⟩ := List.mem_map.1 hm
    have := (List.mem_filter.1 hx).2
    simp only [bne_iff_ne, ne_eq] at this
    exact this hx2
theorem two_tput {n : List UInt8} {k : Int} {M : TM} (h : Two M) (hn : n = holdN ∨ n = aliveN) : Two (tput n k M) := by
  unfold tput; split
  · exact two_mput h hn
  · exact h
theorem two_mtick {M : TM} (h : Two M) : Two (mtick M) := by
  refine ⟨fun e he => ?_, ?_⟩
  · obtain ⟨x, hx, rfl⟩ := List.mem_map.1 he
    exact h.1 x (List.mem_filter.1 hx).1
  · unfold mtick
    rw [List.map_map]
    exact h.2.sublist (List.filter_sublist.map _)
theorem nodup_len {α : Type} [DecidableEq α] : ∀ (s L : List α), s.Nodup → (∀ b, b ∈ s → b ∈ L) → s.length ≤ L.length
  | [], _, _, _ => Nat.zero_le _
  | x :: s, L, hd, h => by
    rw [List.nodup_cons] at hd
    have h1 := nodup_len s (L.erase x) hd.2 fun b hb => (List.mem_erase_of_ne (by rintro rfl; exact hd.1 hb)).2 (h b (List.mem_cons_of_mem _ hb))
    have h2 := h x List.mem_cons_self
    rw [List.length_erase_of_mem h2] at h1
    have := List.length_pos_of_mem h2
    simp only [List.length_cons]; omega
theorem two_len {M : TM} (h : Two M) : M.length ≤ 2 := by
  have := nodup_len (M.map (·.1)) [holdN, aliveN] h.2 fun x hx => by
    obtain ⟨e, he, rfl⟩ := List.mem_map.1 hx
    rcases h.1 e he with h | h <;> simp [h]
  rwa [List.length_map] at this
theorem Inv.len {p : Pr} {S : Ses} (h : Inv p S) : S.m.length ≤ 2 := by
  have hs := h.st
  by_cases a : S.st = 0
  · rcases h.t0 a with e | ⟨_, k, e⟩ <;> rw [e] <;> simp
  · by_cases b : S.st = 1
    · rcases h.t1 b with e | ⟨k, e⟩ <;> rw [e] <;> simp
    · by_cases c : S.st = 2
      · rcases h.t2 c with e | ⟨k, e⟩ <;> rw [e] <;> simp
      · exact two_len (h.t3 (by omega))
theorem inv0 {p : Pr} : Inv p (ses0 p) where
  pp := rfl
  st := ⟨Int.le_refl 0, by show (0 : Int) ≤ 4; decide⟩
  t0 := fun _ => .inl rfl
  t1 := fun _ => .inl rfl
  t2 := fun _ => .inl rfl
  t3 := fun _ => two_nil
  lo := fun _ => ⟨rfl, rfl, rfl⟩
  hd := ⟨by show (-9223372036854775808 : Int) ≤ 0; decide, by show (0 : Int) ≤ 9223372036854775807; decide⟩
  fl := Nat.zero_le _
theorem mtick1 (x : List UInt8) (k : Int) : mtick [(x, k)] = if k = 1 then [] else [(x, k - 1)] := by
  unfold mtick; by_cases h : k = 1 <;> simp [h]
theorem mdue1 (x : List UInt8) (k : Int) : mdue [(x, k)] = if k = 1 then [x] else [] := by
  unfold mdue; by_cases h : k = 1 <;> simp [h]
/-- A fall. -/
theorem fall_eq (n : Nt) (S : Ses) : ∃ l, fallF n S = { S with st := 0, oid := ad0, hold := 0, fams := [], down := decide (S.st = 4), close := true, m := if S.stopped then [] else [(idleN, 3)], send := l } ∧ (n.code ≠ 0 → l = S.send ++ [mNote n]) := by
  unfold fallF
  by_cases c : n.code = 0
  · cases hs : S.stopped
    · exact ⟨S.send, by simp [c, stillF], fun h => absurd c h⟩
    · exact ⟨S.send, by simp [c, stillF], fun h => absurd c h⟩
  · cases hs : S.stopped
    · exact ⟨S.send ++ [mNote n], by simp [c, stillF, sendF], fun _ => rfl⟩
    · exact ⟨S.send ++ [mNote n], by simp [c, stillF, sendF], fun _ => rfl⟩
theorem inv_fall {p : Pr} {S : Ses} (h : S.p = p) (n : Nt) : Inv p (fallF n S) := by
  obtain ⟨l, e, _⟩ := fall_eq n S
  rw [e]
  refine ⟨h, by simp, fun _ => ?_, fun h => by simp at h, fun h => by simp at h, fun h => by simp at h, fun _ => ⟨rfl, rfl, rfl⟩, by simp, by simp⟩
  cases hs : S.stopped with
  | true => exact .inl (by simp)
  | false => exact .inr ⟨rfl, 3, by simp⟩
/-- The names that are due, in their order. -/
theorem due_mem {ss : List (List UInt8)} {M : TM} (h : ss.Perm (mdue M)) {n : List UInt8} (hn : n ∈ ss.mergeSort fun x y => decide (x ≤ y)) : ∃ e, e ∈ M ∧ e.1 = n := by
  have h1 := h.mem_iff.1 (List.mem_mergeSort.1 hn)
  obtain ⟨e, he, rfl⟩ := List.mem_map.1 h1
  exact ⟨e, (List.mem_filter.1 he).1, rfl⟩
theorem due_one {ss : List (List UInt8)} {x : List UInt8} {k : Int} (h : ss.Perm (mdue [(x, k)])) : (ss.mergeSort fun x y => decide (x ≤ y)) = if k = 1 then [x] else [] := by
  rw [mdue1] at h
  by_cases hk : k = 1
  · rw [if_pos hk] at h ⊢
    rw [List.perm_singleton.1 h, List.mergeSort_singleton]
  · rw [if_neg hk] at h ⊢
    rw [List.perm_nil.1 h, List.mergeSort_nil]
theorem due_nil {ss : List (List UInt8)} (h : ss.Perm (mdue [])) : (ss.mergeSort fun x y => decide (x ≤ y)) = [] := by
  have h : ss.Perm [] := h
  rw [List.perm_nil.1 h, List.mergeSort_nil]
/-- Ticks of a session that is up, or nearly. -/
theorem tick34 {p : Pr} : ∀ (N : List (List UInt8)) (S : Ses), (∀ n, n ∈ N → n = holdN ∨ n = aliveN) → Inv p S → 3 ≤ S.st → S.up = false → S.down = false → S.close = false → S.dial = false →
    Inv p (tickL N S) ∧ (tickL N S).up = false ∧ (tickL N S).dial = false ∧ (((tickL N S).st = S.st ∧ (tickL N S).down = false ∧ (tickL N S).close = false) ∨ ((tickL N S).st = 0 ∧ (tickL N S).down = decide (S.st = 4) ∧ (tickL N S).close = true))
  | [], S, _, h, _, h1, h2, h3, h4 => ⟨h, h1, h4, .inl ⟨rfl, h2, h3⟩⟩
  | n :: r, S, hN, h, hs, h1, h2, h3, h4 => by
    rcases hN n List.mem_cons_self with e | e
    · have hne : n ≠ aliveN := by rw [e]; decide
      have e2 : tickL (n :: r) S = fallF ⟨4, 0, []⟩ S := by rw [tickL, if_neg hne, if_pos (.inl e)]
      rw [e2]
      obtain ⟨l, e3, _⟩ := fall_eq ⟨4, 0, []⟩ S
      refine ⟨inv_fall h.pp _, ?_, ?_, .inr ?_⟩
      · rw [e3]; exact h1
      · rw [e3]; exact h4
      · rw [e3]; exact ⟨rfl, rfl, rfl⟩
    · have e2 : tickL (n :: r) S = tickL r ((sendF mAlive S).sM (tput aliveN (S.hold.tdiv 3) S.m)) := by rw [tickL, if_pos e]
      rw [e2]
      exact tick34 r _ (fun x hx => hN x (List.mem_cons_of_mem _ hx)) ⟨h.pp, h.st, fun e => absurd e (by show ¬ S.st = 0; omega), fun e => absurd e (by show ¬ S.st = 1; omega), fun e => absurd e (by show ¬ S.st = 2; omega), fun _ => two_tput (h.t3 hs) (.inr rfl), h.lo, h.hd, h.fl⟩ hs h1 h2 h3 h4
theorem minI_lo {a b : Int} (ha : 0 ≤ a) (hb : -9223372036854775808 ≤ b) : -9223372036854775808 ≤ minI a b := by unfold minI; split <;> omega
theorem minI_le {a b : Int} : minI a b ≤ a := by unfold minI; split <;> omega
theorem inv_opened {p : Pr} {S : Ses} {o : Opn} (h : Inv p S) (hs : S.st = 2) (hp : 0 ≤ p.hold ∧ p.hold ≤ 1000000) (ho : -9223372036854775808 ≤ o.hold) (h1 : S.up = false) (h2 : S.down = false) (h3 : S.close = false) (h4 : S.dial = false) :
    Inv p (openedF o S) ∧ (openedF o S).up = false ∧ (openedF o S).dial = false ∧ (openedF o S).down = false ∧ (((openedF o S).st = 3 ∧ (openedF o S).close = false) ∨ ((openedF o S).st = 0 ∧ (openedF o S).close = true)) := by
  unfold openedF
  split
  · obtain ⟨l, e, _⟩ := fall_eq ⟨2, 2, []⟩ S
    refine ⟨inv_fall h.pp _, ?_⟩
    rw [e]; exact ⟨h1, h4, by simp [hs], .inr ⟨rfl, rfl⟩⟩
  · split
    · obtain ⟨l, e, _⟩ := fall_eq ⟨2, 3, []⟩ S
      refine ⟨inv_fall h.pp _, ?_⟩
      rw [e]; exact ⟨h1, h4, by simp [hs], .inr ⟨rfl, rfl⟩⟩
    · have hm : mdel openN S.m = [] := by
        rcases h.t2 hs with e | ⟨k, e⟩ <;> rw [e] <;> simp [mdel]
      refine ⟨⟨h.pp, by show (0 : Int) ≤ 3 ∧ (3 : Int) ≤ 4; decide, fun e => absurd e (by show ¬ (3 : Int) = 0; decide), fun e => absurd e (by show ¬ (3 : Int) = 1; decide), fun e => absurd e (by show ¬ (3 : Int) = 2; decide), fun _ => ?_, fun e => absurd e (by show ¬ (3 : Int) < 3; decide), ?_, ?_⟩, h1, h4, h2, .inl ⟨rfl, h3⟩⟩
      · show Two (tput aliveN _ (tput holdN _ (mdel openN S.m)))
        rw [hm]
        exact two_tput (two_tput two_nil (.inl rfl)) (.inr rfl)
      · show -9223372036854775808 ≤ minI S.p.hold o.hold ∧ minI S.p.hold o.hold ≤ 9223372036854775807
        rw [h.pp]
        exact ⟨minI_lo hp.1 ho, by have := minI_le (a := p.hold) (b := o.hold); omega⟩
      · show (ag S.p.fams o.fams).length ≤ _
        exact List.length_filter_le _ _
theorem inv_heard {p : Pr} {S : Ses} {m : Ms} (h : Inv p S) (hs : 2 ≤ S.st) (hp : 0 ≤ p.hold ∧ p.hold ≤ 1000000) (ho : -9223372036854775808 ≤ m.op.hold) (h1 : S.up = false) (h2 : S.down = false) (h3 : S.close = false) (h4 : S.dial = false) :
    Inv p (heardF m S) ∧ Rel S (heardF m S) := by
  have hst := h.st
  have fall : ∀ n, Rel S (fallF n S) := by
    intro n
    obtain ⟨l, e, _⟩ := fall_eq n S
    rw [e]
    refine ⟨by simp [h1], by simp, fun _ => ⟨hs, rfl⟩, fun h => by simp [h4] at h⟩
  unfold heardF
  split
  · exact ⟨inv_fall h.pp _, fall _⟩
  · split
    · rename_i hc
      obtain ⟨i, a1, a2, a3, a4⟩ := inv_opened h hc.1 hp ho h1 h2 h3 h4
      refine ⟨i, ⟨?_, ?_, ?_, ?_⟩⟩
      · rw [a1]; rcases a4 with a | a <;> simp [a.1]
      · rw [a3, hc.1]; rfl
      · intro e; rcases a4 with a | a
        · rw [a.2] at e; cases e
        · exact ⟨hs, a.1⟩
      · rw [a2]; intro e; cases e
    · split
      · rename_i hc
        refine ⟨⟨h.pp, by show (0 : Int) ≤ 4 ∧ (4 : Int) ≤ 4; decide, fun e => absurd e (by show ¬ (4 : Int) = 0; decide), fun e => absurd e (by show ¬ (4 : Int) = 1; decide), fun e => absurd e (by show ¬ (4 : Int) = 2; decide), fun _ => two_tput (h.t3 (by omega)) (.inl rfl), fun e => absurd e (by show ¬ (4 : Int) < 3; decide), h.hd, h.fl⟩, ?_⟩
        refine ⟨?_, ?_, fun e => ?_, fun e => ?_⟩
        · show true = decide (S.st ≠ 4 ∧ (4 : Int) = 4); simp [hc.1]
        · show S.down = decide (S.st = 4 ∧ (4 : Int) ≠ 4); simp [h2]
        · have e : S.close = true := e; rw [h3] at e; cases e
        · have e : S.dial = true := e; rw [h4] at e; cases e
      · split
        · rename_i hc
          refine ⟨⟨h.pp, h.st, fun e => absurd e (by show ¬ S.st = 0; omega), fun e => absurd e (by show ¬ S.st = 1; omega), fun e => absurd e (by show ¬ S.st = 2; omega), fun _ => two_tput (h.t3 (by omega)) (.inl rfl), h.lo, h.hd, h.fl⟩, ?_⟩
          refine ⟨?_, ?_, fun e => ?_, fun e => ?_⟩
          · show S.up = decide (S.st ≠ 4 ∧ S.st = 4); simp [h1, hc.1]
          · show S.down = decide (S.st = 4 ∧ S.st ≠ 4); simp [h2]
          · have e : S.close = true := e; rw [h3] at e; cases e
          · have e : S.dial = true := e; rw [h4] at e; cases e
        · exact ⟨inv_fall h.pp _, fall _⟩
theorem inv_S0 {p : Pr} {S : Ses} (h : Inv p S) : Inv p (S0 S) := ⟨h.pp, h.st, h.t0, h.t1, h.t2, h.t3, h.lo, h.hd, h.fl⟩
theorem rel_S0 {S : Ses} {M : TM} : Rel S ((S0 S).sM M) := ⟨by show false = decide (S.st ≠ 4 ∧ S.st = 4); simp, by show false = decide (S.st = 4 ∧ S.st ≠ 4); simp, (fun h => by cases h), (fun h => by cases h)⟩
theorem rel_S00 {S : Ses} : Rel S (S0 S) := rel_S0 (M := S.m)
theorem rel_fall {S : Ses} {n : Nt} (hs : 2 ≤ S.st) : Rel S (fallF n (S0 S)) := by
  obtain ⟨l, e, _⟩ := fall_eq n (S0 S)
  rw [e]
  exact ⟨by show false = decide (S.st ≠ 4 ∧ (0 : Int) = 4); simp, by show decide (S.st = 4) = decide (S.st = 4 ∧ (0 : Int) ≠ 4); simp, fun _ => ⟨hs, rfl⟩, (fun h => by cases h)⟩
theorem tick_at {p : Pr} {S : Ses} {ss : List (List UInt8)} (h : Inv p S) (hp : ss.Perm (mdue S.m)) : Inv p (tickL (ss.mergeSort fun x y => decide (x ≤ y)) ((S0 S).sM (mtick S.m))) ∧ Rel S (tickL (ss.mergeSort fun x y => decide (x ≤ y)) ((S0 S).sM (mtick S.m))) := by
  have hst := h.st
  have dial : ∀ (S1 : Ses), S1.p = p → S1.up = false → S1.down = false → S1.close = false → S1.m = [] → S1.fams = [] → S1.hold = 0 → S1.oid = ad0 → (S.st = 0 ∨ S.st = 1) → Inv p (dialF S1) ∧ Rel S (dialF S1) := by
    intro S1 a1 a2 a3 a4 a5 a6 a7 a8 hs
    refine ⟨⟨a1, by show (0 : Int) ≤ 1 ∧ (1 : Int) ≤ 4; decide, fun e => absurd e (by show ¬ (1 : Int) = 0; decide), fun _ => .inr ⟨5, ?_⟩, fun e => absurd e (by show ¬ (1 : Int) = 2; decide), fun e => absurd e (by show ¬ (3 : Int) ≤ 1; decide), fun _ => ⟨a7, a6, a8⟩, ?_, ?_⟩, ⟨?_, ?_, fun e => ?_, fun _ => rfl⟩⟩
    · show tput retryN 5 S1.m = _
      rw [a5]; rfl
    · show -9223372036854775808 ≤ S1.hold ∧ S1.hold ≤ 9223372036854775807
      rw [a7]; decide
    · show S1.fams.length ≤ _
      rw [a6]; exact Nat.zero_le _
    · show S1.up = decide (S.st ≠ 4 ∧ (1 : Int) = 4); simp [a2]
    · show S1.down = decide (S.st = 4 ∧ (1 : Int) ≠ 4); rw [a3]; rcases hs with e | e <;> simp [e]
    · have e : S1.close = true := e; rw [a4] at e; cases e
  by_cases c0 : S.st = 0
  · obtain ⟨l1, l2, l3⟩ := h.lo (by omega)
    rcases h.t0 c0 with e | ⟨hs, k, e⟩
    · rw [e] at hp
      rw [due_nil hp, e]
      refine ⟨⟨h.pp, h.st, fun _ => .inl rfl, fun e => absurd e (by show ¬ S.st = 1; omega), fun e => absurd e (by show ¬ S.st = 2; omega), fun e => absurd e (by show ¬ 3 ≤ S.st; omega), h.lo, h.hd, h.fl⟩, ?_⟩
      exact rel_S0
    · rw [e] at hp
      rw [due_one hp, e, mtick1]
      by_cases hk : k = 1
      · rw [if_pos hk, if_pos hk]
        have e2 : tickL [idleN] ((S0 S).sM []) = dialF ((S0 S).sM []) := by
          rw [tickL, if_neg (by decide), if_neg (by decide), if_pos (.inl rfl), tickL]
        rw [e2]
        exact dial _ h.pp rfl rfl rfl rfl l2 l1 l3 (.inl c0)
      · rw [if_neg hk, if_neg hk]
        refine ⟨⟨h.pp, h.st, fun _ => .inr ⟨hs, k - 1, rfl⟩, fun e => absurd e (by show ¬ S.st = 1; omega), fun e => absurd e (by show ¬ S.st = 2; omega), fun e => absurd e (by show ¬ 3 ≤ S.st; omega), h.lo, h.hd, h.fl⟩, ?_⟩
        exact rel_S0
  by_cases c1 : S.st = 1
  · obtain ⟨l1, l2, l3⟩ := h.lo (by omega)
    rcases h.t1 c1 with e | ⟨k, e⟩
    · rw [e] at hp
      rw [due_nil hp, e]
      exact ⟨⟨h.pp, h.st, fun e => absurd e c0, fun _ => .inl rfl, fun e => absurd e (by show ¬ S.st = 2; omega), fun e => absurd e (by show ¬ 3 ≤ S.st; omega), h.lo, h.hd, h.fl⟩, rel_S0⟩
    · rw [e] at hp
      rw [due_one hp, e, mtick1]
      by_cases hk : k = 1
      · rw [if_pos hk, if_pos hk]
        have e2 : tickL [retryN] ((S0 S).sM []) = dialF ((S0 S).sM []) := by
          rw [tickL, if_neg (by decide), if_neg (by decide), if_pos (.inr rfl), tickL]
        rw [e2]
        exact dial _ h.pp rfl rfl rfl rfl l2 l1 l3 (.inr c1)
      · rw [if_neg hk, if_neg hk]
        exact ⟨⟨h.pp, h.st, fun e => absurd e c0, fun _ => .inr ⟨k - 1, rfl⟩, fun e => absurd e (by show ¬ S.st = 2; omega), fun e => absurd e (by show ¬ 3 ≤ S.st; omega), h.lo, h.hd, h.fl⟩, rel_S0⟩
  by_cases c2 : S.st = 2
  · rcases h.t2 c2 with e | ⟨k, e⟩
    · rw [e] at hp
      rw [due_nil hp, e]
      exact ⟨⟨h.pp, h.st, fun e => absurd e c0, fun e => absurd e c1, fun _ => .inl rfl, fun e => absurd e (by show ¬ 3 ≤ S.st; omega), h.lo, h.hd, h.fl⟩, rel_S0⟩
    · rw [e] at hp
      rw [due_one hp, e, mtick1]
      by_cases hk : k = 1
      · rw [if_pos hk, if_pos hk]
        have e2 : tickL [openN] ((S0 S).sM []) = fallF ⟨4, 0, []⟩ ((S0 S).sM []) := by
          rw [tickL, if_neg (by decide), if_pos (.inr rfl)]
        rw [e2]
        refine ⟨inv_fall (S := (S0 S).sM []) h.pp _, ?_⟩
        obtain ⟨l, e3, _⟩ := fall_eq ⟨4, 0, []⟩ ((S0 S).sM [])
        rw [e3]
        exact ⟨by show false = decide (S.st ≠ 4 ∧ (0 : Int) = 4); simp, by show decide (S.st = 4) = decide (S.st = 4 ∧ (0 : Int) ≠ 4); simp, fun _ => ⟨by omega, rfl⟩, (fun h => by cases h)⟩
      · rw [if_neg hk, if_neg hk]
        exact ⟨⟨h.pp, h.st, fun e => absurd e c0, fun e => absurd e c1, fun _ => .inr ⟨k - 1, rfl⟩, fun e => absurd e (by show ¬ 3 ≤ S.st; omega), h.lo, h.hd, h.fl⟩, rel_S0⟩
  · have c3 : 3 ≤ S.st := by omega
    have t3 := h.t3 c3
    have i1 : Inv p ((S0 S).sM (mtick S.m)) := ⟨h.pp, h.st, fun e => absurd e c0, fun e => absurd e c1, fun e => absurd e c2, fun _ => two_mtick t3, h.lo, h.hd, h.fl⟩
    obtain ⟨a1, a2, a3, a4⟩ := tick34 (ss.mergeSort fun x y => decide (x ≤ y)) ((S0 S).sM (mtick S.m)) (fun n hn => by obtain ⟨e, he, rfl⟩ := due_mem hp hn; exact t3.1 e he) i1 c3 rfl rfl rfl rfl
    refine ⟨a1, ?_⟩
    generalize tickL (ss.mergeSort fun x y => decide (x ≤ y)) ((S0 S).sM (mtick S.m)) = S' at *
    have e0 : ((S0 S).sM (mtick S.m)).st = S.st := rfl
    rw [e0] at a4
    rcases a4 with ⟨b1, b2, b3⟩ | ⟨b1, b2, b3⟩
    · exact ⟨by rw [a2, b1]; simp, by rw [b2, b1]; simp, (fun e => by rw [b3] at e; cases e), (fun e => by rw [a3] at e; cases e)⟩
    · exact ⟨by rw [a2, b1]; simp, by rw [b2, b1]; simp, fun _ => ⟨by omega, b1⟩, (fun e => by rw [a3] at e; cases e)⟩
theorem stop_inv {p : Pr} {S : Ses} (h : Inv p S) : Inv p (stopF (S0 S)) ∧ Rel S (stopF (S0 S)) := by
  by_cases h2 : 2 ≤ S.st
  · have e1 : stopF (S0 S) = fallF ⟨6, 2, []⟩ ({ S0 S with stopped := true } : Ses) := by
      unfold stopF; exact if_pos h2
    rw [e1]
    refine ⟨inv_fall (S := ({ S0 S with stopped := true } : Ses)) h.pp _, ?_⟩
    obtain ⟨l, e, _⟩ := fall_eq ⟨6, 2, []⟩ ({ S0 S with stopped := true } : Ses)
    rw [e]
    exact ⟨by show false = decide (S.st ≠ 4 ∧ (0 : Int) = 4); simp, by show decide (S.st = 4) = decide (S.st = 4 ∧ (0 : Int) ≠ 4); simp, fun _ => ⟨h2, rfl⟩, (fun h => by cases h)⟩
  · have e1 : stopF (S0 S) = stillF ({ S0 S with stopped := true } : Ses) := by
      unfold stopF; exact if_neg h2
    rw [e1]
    refine ⟨⟨h.pp, by show (0 : Int) ≤ 0 ∧ (0 : Int) ≤ 4; decide, fun _ => .inl rfl, fun e => absurd e (by show ¬ (0 : Int) = 1; decide), fun e => absurd e (by show ¬ (0 : Int) = 2; decide), fun e => absurd e (by show ¬ (3 : Int) ≤ 0; decide), fun _ => ⟨rfl, rfl, rfl⟩, by show (-9223372036854775808 : Int) ≤ 0 ∧ (0 : Int) ≤ 9223372036854775807; decide, Nat.zero_le _⟩, ?_⟩
    refine ⟨by show false = decide (S.st ≠ 4 ∧ (0 : Int) = 4); simp, ?_, (fun e => by cases e), (fun e => by cases e)⟩
    show false = decide (S.st = 4 ∧ (0 : Int) ≠ 4)
    have : ¬ S.st = 4 := by omega
    simp [this]
theorem do_inv {p : Pr} {ev : Ev} {S S' : Ses} (h : Inv p S) (hp : 0 ≤ p.hold ∧ p.hold ≤ 1000000) (ho : -9223372036854775808 ≤ ev.h.op.hold) (hd : DoR ev S S') : Inv p S' ∧ Rel S S' := by
  have hst := h.st
  unfold DoR at hd
  split at hd
  · rename_i hc
    subst hd
    obtain ⟨l1, l2, l3⟩ := h.lo (by omega)
    have hm : mdel idleN S.m = [] := by
      rcases h.t0 hc.2 with e | ⟨_, k, e⟩ <;> rw [e] <;> simp [mdel]
    refine ⟨⟨h.pp, by show (0 : Int) ≤ 1 ∧ (1 : Int) ≤ 4; decide, fun e => absurd e (by show ¬ (1 : Int) = 0; decide), fun _ => .inr ⟨5, ?_⟩, fun e => absurd e (by show ¬ (1 : Int) = 2; decide), fun e => absurd e (by show ¬ (3 : Int) ≤ 1; decide), fun _ => ⟨l1, l2, l3⟩, h.hd, h.fl⟩, ⟨?_, ?_, (fun e => by cases e), fun _ => rfl⟩⟩
    · show tput retryN 5 (mdel idleN S.m) = _
      rw [hm]; rfl
    · show false = decide (S.st ≠ 4 ∧ (1 : Int) = 4); simp
    · show false = decide (S.st = 4 ∧ (1 : Int) ≠ 4); simp [hc.2]
  split at hd
  · subst hd
    exact stop_inv h
  split at hd
  · rename_i hc
    subst hd
    obtain ⟨l1, l2, l3⟩ := h.lo (by omega)
    have hm : mdel retryN S.m = [] := by
      rcases h.t1 hc.2 with e | ⟨k, e⟩ <;> rw [e] <;> simp [mdel]
    refine ⟨⟨h.pp, by show (0 : Int) ≤ 2 ∧ (2 : Int) ≤ 4; decide, fun e => absurd e (by show ¬ (2 : Int) = 0; decide), fun e => absurd e (by show ¬ (2 : Int) = 1; decide), fun _ => .inr ⟨240, ?_⟩, fun e => absurd e (by show ¬ (3 : Int) ≤ 2; decide), fun _ => ⟨l1, l2, l3⟩, h.hd, h.fl⟩, ⟨?_, ?_, (fun e => by cases e), (fun e => by cases e)⟩⟩
    · show tput openN 240 (mdel retryN S.m) = _
      rw [hm]; rfl
    · show false = decide (S.st ≠ 4 ∧ (2 : Int) = 4); simp
    · show false = decide (S.st = 4 ∧ (2 : Int) ≠ 4); simp [hc.2]
  split at hd
  · rename_i hc
    subst hd
    have i := inv_fall (S := S0 S) h.pp nt0
    have r := rel_fall (n := nt0) hc.2
    exact ⟨⟨i.pp, i.st, i.t0, i.t1, i.t2, i.t3, i.lo, i.hd, i.fl⟩, ⟨r.up, r.down, (fun e => by cases e), r.dial⟩⟩
  split at hd
  · rename_i hc
    subst hd
    exact ⟨inv_fall (S := S0 S) h.pp _, rel_fall hc.2⟩
  split at hd
  · rename_i hc
    subst hd
    obtain ⟨i, r⟩ := inv_heard (m := ev.h) (inv_S0 h) hc.2 hp ho rfl rfl rfl rfl
    exact ⟨i, ⟨r.up, r.down, r.close, r.dial⟩⟩
  split at hd
  · obtain ⟨ss, h1, rfl⟩ := hd
    exact tick_at h h1
  · subst hd
    exact ⟨inv_S0 h, rel_S00⟩
end Go.Proofs.YtocnjlfnapefjaaGreatDoor
