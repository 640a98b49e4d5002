/- mroute.Take: the head, a leaf's key. -/
import Derived.Test.YtdkjcadffhnjgaaDoorM8
namespace Go.Proofs.YtdkjcadffhnjgaaDoor
open Go Go.V
set_option maxRecDepth 10000
structure MT where
  m : Mr
  n : Nat
  e : Int
/-- A leaf's key, what is left behind it, whether it was there; none: no head. -/
def keyOf (x : UInt8) (R : List UInt8) : Option (List UInt8 × List UInt8 × Bool) :=
  if x = 4 then match R with
    | a :: b :: r => some (a :: b :: (rdT r false b.toNat).1, (rdT r false b.toNat).2.1, (rdT r false b.toNat).2.2)
    | _ => none
  else some ([], R, false)
def okB (R : RS) : Bool := R.ok && (!R.bad && decide (R.l.length = 0))
/-- What Take answers, where rt and sz say what Right and sized say. -/
def takeG (rt sz : Mr → Bool) (l : List UInt8) (s : Int) : MT :=
  if s ≠ 4 ∧ s ≠ 16 then ⟨mr0, 0, 1⟩ else match l with
  | x :: y :: r => if r.length < y.toNat then ⟨mr0, 0, 3⟩ else match keyOf x (r.take y.toNat) with
    | none => ⟨mr0, 0, 4⟩
    | some t => if (okB (readM (x.toNat : Int) t.2.1 t.2.2 t.1) && (rt (readM (x.toNat : Int) t.2.1 t.2.2 t.1).m && sz (readM (x.toNat : Int) t.2.1 t.2.2 t.1).m)) = true then ⟨(readM (x.toNat : Int) t.2.1 t.2.2 t.1).m, 2 + y.toNat, 0⟩ else ⟨mr0, 0, 4⟩
  | _ => ⟨mr0, 0, 3⟩
theorem rs1_k (p : Pt) (S : RS) : (rs1 p S).m.k = S.m.k := by unfold rs1; split <;> rfl
theorem rs2_k (p : Pt) (S : RS) : (rs2 p S).m.k = S.m.k := by unfold rs2; split <;> rfl
theorem rs3_k (p : Pt) (S : RS) : (rs3 p S).m.k = S.m.k := by unfold rs3; split <;> rfl
theorem rs4_k (p : Pt) (S : RS) : (rs4 p S).m.k = S.m.k := by unfold rs4; split <;> rfl
theorem readM_k (k : Int) (l : List UInt8) (bad : Bool) (key : List UInt8) : (readM k l bad key).m.k = k := by unfold readM; rw [rs4_k, rs3_k, rs2_k, rs1_k]; rfl
theorem readM_ok (k : Int) (l : List UInt8) (bad : Bool) (key : List UInt8) : okM (readM k l bad key).m := (rs4_ok (rs3_ok (rs2_ok (rs1_ok (rs0_ok (Nat.le_refl l.length)))))).m
attribute [local irreducible] vBuild vCallV
section
variable {l : List UInt8} {s : Int} {rt sz : Mr → Bool}
set_option maxHeartbeats 4000000 in
theorem uTakeArgM (h4 : s ≠ 4) (h16 : s ≠ 16) : U Tryd.prog 36 [.sl (bsl l), .int .i64 s] (.tup [.agg mz, .int .i64 0, .int .i64 1]) := by
  intro σ Post hk
  have w1 := mz_zz
  have w2 := mz_zy
  have w3 := mz_all
  have w4 := mz_len
  have w5 := mz_sc
  refine T36 fun hB hA => ?_
  rw [vb36_eq]
  refine W ?_
  exact hk
set_option maxHeartbeats 4000000 in
theorem uTakeEndM (hl : l.length ≤ 140737488355328) (hs : s = 4 ∨ s = 16) (h : ∀ x y r, l = x :: y :: r → r.length < y.toNat) : U Tryd.prog 36 [.sl (bsl l), .int .i64 s] (.tup [.agg mz, .int .i64 0, .int .i64 3]) := by
  intro σ Post hk
  have w1 := mz_zz
  have w2 := mz_zy
  have w3 := mz_all
  have w4 := mz_len
  have w5 := mz_sc
  refine T36 fun hB hA => ?_
  rw [vb36_eq]
  refine cutp (fun e h => e 0 = .sl (bsl l) ∧ e 1 = .int .i64 s ∧ (∃ k, e 4 = .ptr (σ.length + 0) k 0 ∧ k = 1) ∧ h = σ ++ [(1, .box mz false), (0, .dead)]) ?_ ?_
  · refine W ?_
    exact ⟨rfl, rfl, ⟨1, rfl, rfl⟩, rfl⟩
  rintro u _ ⟨e0, e1, ⟨k, e4, rfl⟩, rfl⟩
  refine cutp (fun e h => e 0 = .sl (bsl l) ∧ e 1 = .int .i64 s ∧ (∃ k, e 4 = .ptr (σ.length + 0) k 0 ∧ k = 1) ∧ h = σ ++ [(1, .box mz false), (0, .dead)]) ?_ ?_
  · rcases hs with hs | hs
    · refine W ?_
      exact ⟨e0, e1, ⟨1, e4, rfl⟩, rfl⟩
    · refine W ?_
      exact ⟨e0, e1, ⟨1, e4, rfl⟩, rfl⟩
  clear e0 e1 e4
  rintro u _ ⟨e0, e1, ⟨k, e4, rfl⟩, rfl⟩
  obtain ⟨p1, r1, b1, h1⟩ : ∃ p q c, rdT l false 1 = (p, q, c) := ⟨_, _, _, rfl⟩
  obtain ⟨p2, r2, b2, h2⟩ : ∃ p q c, rdT r1 b1 1 = (p, q, c) := ⟨_, _, _, rfl⟩
  obtain ⟨p3, r3, b3, h3⟩ : ∃ p q c, rdT r2 b2 (big p2 0) = (p, q, c) := ⟨_, _, _, rfl⟩
  have a1 := rdT_len l false 1
  have a2 := rdT_len r1 b1 1
  rw [h1] at a1
  rw [h2] at a2
  dsimp only at a1 a2
  have hb3 : b3 = true := by
    cases l with
    | nil => 
      rw [show rdT [] false 1 = ([], [], true) from rfl] at h1
      cases h1
      rw [show rdT [] true 1 = ([], [], true) from rfl] at h2
      cases h2
      rw [show rdT [] true (big [] 0) = ([], [], true) from rfl] at h3
      cases h3; rfl
    | cons x t =>
      rw [show rdT (x :: t) false 1 = ([x], t, false) by unfold rdT; rw [if_neg (by simp)]; rfl] at h1
      have e2 : t = r1 := congrArg (fun z => z.2.1) h1
      have e3 : false = b1 := congrArg (fun z => z.2.2) h1
      rw [← e2, ← e3] at h2
      cases t with
      | nil =>
        rw [show rdT [] false 1 = ([], [], true) from rfl] at h2
        cases h2
        rw [show rdT [] true (big [] 0) = ([], [], true) from rfl] at h3
        cases h3; rfl
      | cons y r =>
        rw [show rdT (y :: r) false 1 = ([y], r, false) by unfold rdT; rw [if_neg (by simp)]; rfl] at h2
        have e4' : [y] = p2 := congrArg (fun z => z.1) h2
        have e5 : r = r2 := congrArg (fun z => z.2.1) h2
        have e6 : false = b2 := congrArg (fun z => z.2.2) h2
        rw [← e4', ← e5, ← e6] at h3
        have := h x y r rfl
        rw [big_one] at h3
        unfold rdT at h3
        rw [if_pos (.inr this)] at h3
        cases h3; rfl
  subst hb3
  unfold vb36_2
  refine W ?_
  refine ct ?_
  refine tOpen (l := l) hl ?_
  refine W ?_
  refine ct ?_
  refine lNum (z := 1) (l := l) (bad := false) h1 (by decide) (by decide) rfl ?_
  refine W ?_
  refine ct ?_
  refine lNum (z := 1) (l := r1) (bad := b1) h2 (by decide) (by decide) rfl ?_
  refine W ?_
  refine ct ?_
  refine lSub (z := big p2 0) (l := r2) (bad := b2) h3 (by omega) rfl ?_
  refine W ?_
  refine ct ?_
  refine lBad rfl ?_
  refine W ?_
  exact hk
set_option maxHeartbeats 4000000 in
/-- Up to the key. -/
theorem takeHead {x y : UInt8} {r : List UInt8} {σ : VHeap} {Post : KP} (hl : (x :: y :: r).length ≤ 140737488355328) (hs : s = 4 ∨ s = 16) (hr : ¬ r.length < y.toNat)
    (hR : ∀ key l' bad, key.length ≤ 300 → U Tryd.prog 32 [.agg (mrc (readM (x.toNat : Int) l' bad key).m)] (.bool (rt (readM (x.toNat : Int) l' bad key).m)))
    (hS : ∀ key l' bad, key.length ≤ 300 → rt (readM (x.toNat : Int) l' bad key).m = true → U Tryd.prog 75 [.agg (mrc (readM (x.toNat : Int) l' bad key).m), .int .i64 s] (.bool (sz (readM (x.toNat : Int) l' bad key).m)))
    (hk : Post (.tup [.agg (mrc (takeG rt sz (x :: y :: r) s).m), .int .i64 ((takeG rt sz (x :: y :: r) s).n : Int), .int .i64 (takeG rt sz (x :: y :: r) s).e]) σ) : T Tryd.prog 36 [.sl (bsl (x :: y :: r)), .int .i64 s] σ Post := by
  have w1 := mz_zz
  have w2 := mz_zy
  have w3 := mz_all
  have w4 := mz_len
  have w5 := mz_sc
  have hx := x.toNat_lt
  have hy := y.toNat_lt
  have hne : ¬ (s ≠ 4 ∧ s ≠ 16) := by omega
  have hRl : (r.take y.toNat).length ≤ 255 := by rw [List.length_take]; omega
  unfold takeG at hk
  rw [if_neg hne] at hk
  dsimp only at hk
  rw [if_neg hr] at hk
  generalize hRR : r.take y.toNat = R at hk hRl
  refine T36 fun hB hA => ?_
  rw [vb36_eq]
  refine cutp (fun e h => e 0 = .sl (bsl (x :: y :: r)) ∧ e 1 = .int .i64 s ∧ (∃ k, e 4 = .ptr (σ.length + 0) k 0 ∧ k = 1) ∧ h = σ ++ [(1, .box mz false), (0, .dead)]) ?_ ?_
  · refine W ?_
    exact ⟨rfl, rfl, ⟨1, rfl, rfl⟩, rfl⟩
  rintro u _ ⟨e0, e1, ⟨k, e4, rfl⟩, rfl⟩
  refine cutp (fun e h => e 0 = .sl (bsl (x :: y :: r)) ∧ e 1 = .int .i64 s ∧ (∃ k, e 4 = .ptr (σ.length + 0) k 0 ∧ k = 1) ∧ h = σ ++ [(1, .box mz false), (0, .dead)]) ?_ ?_
  · rcases hs with hs | hs
    · refine W ?_
      exact ⟨e0, e1, ⟨1, e4, rfl⟩, rfl⟩
    · refine W ?_
      exact ⟨e0, e1, ⟨1, e4, rfl⟩, rfl⟩
  clear e0 e1 e4
  rintro u _ ⟨e0, e1, ⟨k, e4, rfl⟩, rfl⟩
  unfold vb36_2
  refine W ?_
  refine ct ?_
  refine tOpen (l := x :: y :: r) hl ?_
  refine W ?_
  refine ct ?_
  refine lNum (z := 1) (l := x :: y :: r) (bad := false) (p := [x]) (q := y :: r) (c := false) (by unfold rdT; rw [if_neg (by simp)]; rfl) (by decide) (by decide) rfl ?_
  rw [big_one]
  refine W ?_
  refine ct ?_
  refine lNum (z := 1) (l := y :: r) (bad := false) (p := [y]) (q := r) (c := false) (by unfold rdT; rw [if_neg (by simp)]; rfl) (by decide) (by decide) rfl ?_
  rw [big_one]
  refine W ?_
  refine ct ?_
  refine lSub (z := y.toNat) (l := r) (bad := false) (p := R) (q := r.drop y.toNat) (c := false) (by unfold rdT; rw [if_neg (by simp; omega), hRR]) (by simp at hl; omega) rfl ?_
  refine W ?_
  refine ct ?_
  refine lBad rfl ?_
  by_cases h4 : x = 4
  · subst h4
    have ht : (4 : UInt8).toNat = 4 := rfl
    rcases hcase : R with _ | ⟨a, _ | ⟨b, r2⟩⟩
    · subst hcase
      refine W ?_
      refine ct ?_
      refine lTake (z := 2) (l := []) (bad := false) (p := []) (q := []) (c := true) rfl (by decide) rfl ?_
      refine W ?_
      refine ct ?_
      refine lBad rfl ?_
      refine W ?_
      exact hk
    · subst hcase
      refine W ?_
      refine ct ?_
      refine lTake (z := 2) (l := [a]) (bad := false) (p := []) (q := [a]) (c := true) rfl (by show 1 ≤ _; decide) rfl ?_
      refine W ?_
      refine ct ?_
      refine lBad rfl ?_
      refine W ?_
      exact hk
    · subst hcase
      have hb := b.toNat_lt
      obtain ⟨p, q, c, hp⟩ : ∃ p q c, rdT r2 false b.toNat = (p, q, c) := ⟨_, _, _, rfl⟩
      have a1 := rdT_len r2 false b.toNat
      rw [hp] at a1
      dsimp only at a1
      have ek : keyOf 4 (a :: b :: r2) = some (a :: b :: p, q, c) := by unfold keyOf; rw [if_pos rfl]; dsimp only; rw [hp]
      rw [ek] at hk
      dsimp only at hk
      rw [List.length_cons, List.length_cons] at hRl
      have i1 : (bsl [a, b])[1]? = some [byt b] := rfl
      have k1 : IntKind.i64.wrap (b.toNat : Int) = (b.toNat : Int) := w_i64 (by omega) (by omega)
      refine W ?_
      refine ct ?_
      refine lTake (z := 2) (l := a :: b :: r2) (bad := false) (p := [a, b]) (q := r2) (c := false) (by unfold rdT; rw [if_neg (by simp)]; rfl) (by simp; omega) rfl ?_
      refine W ?_
      refine ct ?_
      refine lBad rfl ?_
      refine W ?_
      refine sv_0 ?_
      refine ct ?_
      refine lTake (z := b.toNat) (l := r2) (bad := false) hp (by omega) rfl ?_
      refine st_end ⟨trivial, ?_⟩
      refine Wo ?_
      refine take9 (kk := (((4 : UInt8).toNat : Nat) : Int)) (y := y.toNat) (s := s) (l := q) (bad := c) (key := a :: b :: p) (O := okB (readM (((4 : UInt8).toNat : Nat) : Int) q c (a :: b :: p))) hB (by omega) hy e1 e4 rfl rfl rfl rfl (readM_ok _ _ _ _) rfl rfl (hR (a :: b :: p) q c (by simp; omega)) (hS (a :: b :: p) q c (by simp; omega)) ?_
      split at hk
      · rename_i hc; rw [if_pos hc]
        have e2 : ((2 + y.toNat : Nat) : Int) = 2 + (y.toNat : Int) := by omega
        rw [e2] at hk
        exact hk
      · rename_i hc; rw [if_neg hc]; exact hk
  · have h4n : ¬ x.toNat = 4 := fun e => h4 (UInt8.toNat_inj.1 e)
    have ek : keyOf x R = some ([], R, false) := by unfold keyOf; rw [if_neg h4]
    rw [ek] at hk
    dsimp only at hk
    refine W ?_
    refine take9 (kk := (x.toNat : Int)) (y := y.toNat) (s := s) (l := R) (bad := false) (key := []) (O := okB (readM (x.toNat : Int) R false [])) hB (by omega) hy e1 e4 rfl rfl rfl rfl (readM_ok _ _ _ _) rfl rfl (hR [] R false (by decide)) (hS [] R false (by decide)) ?_
    split at hk
    · rename_i hc; rw [if_pos hc]
      have e2 : ((2 + y.toNat : Nat) : Int) = 2 + (y.toNat : Int) := by omega
      rw [e2] at hk
      exact hk
    · rename_i hc; rw [if_neg hc]; exact hk
/-- mroute.Take, given what Right and sized say. -/
theorem uTakeG (hl : l.length ≤ 140737488355328)
    (hR : ∀ x t, l = x :: t → ∀ key l' bad, key.length ≤ 300 → U Tryd.prog 32 [.agg (mrc (readM (x.toNat : Int) l' bad key).m)] (.bool (rt (readM (x.toNat : Int) l' bad key).m)))
    (hS : ∀ x t, l = x :: t → ∀ key l' bad, key.length ≤ 300 → rt (readM (x.toNat : Int) l' bad key).m = true → U Tryd.prog 75 [.agg (mrc (readM (x.toNat : Int) l' bad key).m), .int .i64 s] (.bool (sz (readM (x.toNat : Int) l' bad key).m))) :
    U Tryd.prog 36 [.sl (bsl l), .int .i64 s] (.tup [.agg (mrc (takeG rt sz l s).m), .int .i64 ((takeG rt sz l s).n : Int), .int .i64 (takeG rt sz l s).e]) := by
  by_cases hs : s ≠ 4 ∧ s ≠ 16
  · have e : takeG rt sz l s = ⟨mr0, 0, 1⟩ := by unfold takeG; rw [if_pos hs]
    rw [e]; exact uTakeArgM hs.1 hs.2
  have hs' : s = 4 ∨ s = 16 := by omega
  have short : takeG rt sz l s = ⟨mr0, 0, 3⟩ → (∀ x y r, l = x :: y :: r → r.length < y.toNat) → U Tryd.prog 36 [.sl (bsl l), .int .i64 s] (.tup [.agg (mrc (takeG rt sz l s).m), .int .i64 ((takeG rt sz l s).n : Int), .int .i64 (takeG rt sz l s).e]) := fun e h => by
    rw [e]; exact uTakeEndM hl hs' h
  rcases l with _ | ⟨x, _ | ⟨y, r⟩⟩
  · exact short (by unfold takeG; rw [if_neg hs]) (fun x y r h => by cases h)
  · exact short (by unfold takeG; rw [if_neg hs]) (fun x y r h => by cases h)
  · by_cases hr : r.length < y.toNat
    · exact short (by unfold takeG; rw [if_neg hs]; dsimp only; rw [if_pos hr]) (fun x' y' r' h => by cases h; exact hr)
    · intro σ Post hk
      exact takeHead hl hs' hr (hR x _ rfl) (hS x _ rfl) hk
end
end Go.Proofs.YtdkjcadffhnjgaaDoor
