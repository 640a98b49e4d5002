/- mroute: Take of what Bytes wrote, and what was taken in bytes. -/
import Derived.Test.YtdkjcadffhnjgaaDoorM17
namespace Go.Proofs.YtdkjcadffhnjgaaDoor
open Go Go.V
set_option maxRecDepth 10000
theorem RightP.key {m : Mr} (R : RightP m) (h4 : m.k ≠ 4) : m.key = [] := by
  have := congrArg Mr.key R.bare
  unfold bareF at this
  dsimp only at this
  rw [if_neg h4] at this
  exact this.symm
theorem RightP.kk {m : Mr} (R : RightP m) : 1 ≤ m.k ∧ m.k ≤ 7 := by
  have := kinds R.k; omega
theorem RightP.no {m : Mr} (R : RightP m) (h : (ofF m.k).1.fl = false) : m.s = ad0 ∧ m.g = ad0 := by
  have h1 := congrArg Mr.s R.bare
  have h2 := congrArg Mr.g R.bare
  unfold bareF at h1 h2
  dsimp only at h1 h2
  rw [h] at h1 h2
  exact ⟨h1.symm, h2.symm⟩
theorem byteK {k : Int} (h0 : 0 ≤ k) (h7 : k ≤ 7) : ((UInt8.ofNat k.toNat).toNat : Int) = k := by
  have : (UInt8.ofNat k.toNat).toNat = k.toNat := by simp; omega
  omega
theorem takeG_good {rt sz : Mr → Bool} {l : List UInt8} {s : Int} (h : (takeG rt sz l s).e = 0) : rt (takeG rt sz l s).m = true ∧ sz (takeG rt sz l s).m = true ∧ mbytes (takeG rt sz l s).m = l.take (takeG rt sz l s).n ∧ (takeG rt sz l s).n ≤ l.length ∧ 2 ≤ (takeG rt sz l s).n ∧ (s = 4 ∨ s = 16) := by
  unfold takeG at *
  split at h
  · cases h
  · rename_i hs
    rw [if_neg hs]
    have hs : s = 4 ∨ s = 16 := by omega
    split at h
    · rename_i x y r
      try dsimp only
      split at h
      · cases h
      · rename_i hl
        rw [if_neg hl]
        split at h
        · cases h
        · rename_i t ht
          split at h
          · rename_i hc
            rw [if_pos hc]; dsimp only
            simp only [Bool.and_eq_true] at hc
            obtain ⟨c1, c2, c3⟩ := hc
            obtain ⟨g1, g2⟩ := readM_good c1
            have kk := readM_k (x.toNat : Int) t.2.1 t.2.2 t.1
            have ke := readM_key (x.toNat : Int) t.2.1 t.2.2 t.1
            refine ⟨c2, c3, ?_, by rw [List.length_cons, List.length_cons]; omega, by omega, hs⟩
            have hp : partsB (readM (x.toNat : Int) t.2.1 t.2.2 t.1).m (ofF (readM (x.toNat : Int) t.2.1 t.2.2 t.1).m.k).1 = r.take y.toNat := by
              rw [partsB_body, ke, kk, ← g2]
              unfold keyOf at ht
              split at ht
              · split at ht
                · rename_i a b q hq
                  injection ht with ht
                  subst ht
                  dsimp only at g1 ⊢
                  obtain ⟨p', q', c', hx⟩ : ∃ p' q' c', rdT q false b.toNat = (p', q', c') := ⟨_, _, _, rfl⟩
                  rw [hx] at g1 ⊢
                  dsimp only at g1 ⊢
                  subst g1
                  obtain ⟨_, f2, _⟩ := rdT_good hx
                  rw [hq, f2]; rfl
                · cases ht
              · injection ht with ht
                subst ht; rfl
            have hk : UInt8.ofNat (readM (x.toNat : Int) t.2.1 t.2.2 t.1).m.k.toNat = x := by
              rw [kk, Int.toNat_natCast, UInt8.ofNat_toNat]
            have hy : UInt8.ofNat (r.take y.toNat).length = y := by
              rw [List.length_take, Nat.min_eq_left (by omega), UInt8.ofNat_toNat]
            unfold mbytes
            rw [hp, hk, hy, Nat.add_comm 2, List.take_succ_cons, List.take_succ_cons]
          · cases h
    · cases h
theorem takeG_back {rt sz : Mr → Bool} {m : Mr} {s : Int} {t : List UInt8} (h : okM m) (R : RightP m) (hrt : rt m = true) (hs : s = 4 ∨ s = 16) (hl : (partsB m (ofF m.k).1).length ≤ 255) (hkey : m.k = 4 → ∃ a b r, m.key = a :: b :: r ∧ r.length = b.toNat) :
    takeG rt sz (mbytes m ++ t) s = if sz m = true then ⟨m, (mbytes m).length, 0⟩ else ⟨mr0, 0, 4⟩ := by
  have hk := R.kk
  have hX := byteK (k := m.k) (by omega) (by omega)
  have hb := readM_back h R
  have hne : ¬ (s ≠ 4 ∧ s ≠ 16) := fun e => hs.elim e.1 e.2
  unfold mbytes
  generalize hX' : UInt8.ofNat m.k.toNat = X at *
  generalize hP : partsB m (ofF m.k).1 = P at *
  have hY : (UInt8.ofNat P.length).toNat = P.length := by simp; omega
  generalize UInt8.ofNat P.length = Y at *
  have hq : (P ++ t).take Y.toNat = P := by rw [hY, List.take_left]
  rw [List.cons_append, List.cons_append]
  unfold takeG
  rw [if_neg hne]
  dsimp only
  rw [if_neg (by rw [List.length_append]; omega), hq]
  have hko : keyOf X P = some (m.key, body m (ofF m.k).1, false) := by
    unfold keyOf
    rw [← hP, partsB_body]
    by_cases h4 : m.k = 4
    · have hx4 : X = 4 := by
        apply UInt8.toNat_inj.1
        show X.toNat = 4
        omega
      rw [if_pos hx4]
      obtain ⟨a, b, r, e1, e2⟩ := hkey h4
      rw [e1, List.cons_append, List.cons_append]
      try dsimp only
      have := rdT_app r (body m (ofF m.k).1)
      rw [e2] at this
      rw [this]
    · have hx4 : ¬ X = 4 := by
        intro e
        rw [e] at hX
        have : ((4 : UInt8).toNat : Int) = 4 := rfl
        omega
      rw [if_neg hx4, R.key h4]; rfl
  rw [hko]
  dsimp only
  rw [hX, hb]
  unfold okB
  dsimp only
  rw [hrt]
  cases sz m with
  | true =>
    simp only [Bool.and_self, Bool.not_false, List.length_nil, decide_true, if_true]
    congr 1
    rw [List.length_cons, List.length_cons]; omega
  | false => simp
theorem size_ex {m : Mr} (R : RightP m) : ∃ s, (s = 4 ∨ s = 16) ∧ sizeOk m s = true := by
  cases hf : (ofF m.k).1.fl with
  | false =>
    obtain ⟨h1, h2⟩ := R.no hf
    refine ⟨4, .inl rfl, ?_⟩
    unfold sizeOk
    rw [h1, h2]; rfl
  | true =>
    have h := R.fl hf
    obtain ⟨o1, o2⟩ := flows_ok h
    have h1 := okAd_s o1
    have h2 := okAd_s o2
    unfold flowsF at h
    simp only [Bool.and_eq_true] at h
    have h3 := h.2
    unfold sizeOk fitA
    simp only [Bool.and_eq_true, Bool.or_eq_true, decide_eq_true_eq]
    split at h3
    · rename_i hw
      simp only [Bool.or_eq_true, decide_eq_true_eq, Bool.and_eq_true] at hw
      rcases hw.2 with e | e
      · rcases h2 with e2 | e2 | e2
        · exact ⟨4, .inl rfl, .inl e, .inl e2⟩
        · exact ⟨4, .inl rfl, .inl e, .inr e2⟩
        · exact ⟨16, .inr rfl, .inl e, .inr e2⟩
      · rcases h1 with e2 | e2 | e2
        · exact ⟨4, .inl rfl, .inl e2, .inl e⟩
        · exact ⟨4, .inl rfl, .inr e2, .inl e⟩
        · exact ⟨16, .inr rfl, .inr e2, .inl e⟩
    · simp only [Bool.and_eq_true, decide_eq_true_eq] at h3
      obtain ⟨e0, e⟩ := h3
      rcases h1 with e2 | e2 | e2
      · omega
      · exact ⟨4, .inl rfl, .inr e2, .inr (by omega)⟩
      · exact ⟨16, .inr rfl, .inr e2, .inr (by omega)⟩
theorem mbytes_len {m : Mr} : (mbytes m).length = 2 + (partsB m (ofF m.k).1).length := by unfold mbytes; simp; omega
theorem ansF_good {key : List UInt8} (h : (ansF key).2 = true) : ∃ u s, okM u ∧ RightP u ∧ (u.k = 2 ∨ u.k = 3) ∧ key = mbytes u ∧ (s = 4 ∨ s = 16) ∧ parseN key s = (u, 0) ∧ (ansF key).1 = u := by
  unfold ansF at *
  split at h
  · cases h
  · rename_i h4
    rw [if_neg h4]
    have go : ∀ s, goodA (parseN key s) = true → ∃ u s, okM u ∧ RightP u ∧ (u.k = 2 ∨ u.k = 3) ∧ key = mbytes u ∧ (s = 4 ∨ s = 16) ∧ parseN key s = (u, 0) ∧ (parseN key s).1 = u := fun s hs => by
      obtain ⟨z1, z2⟩ := goodA_z hs
      obtain ⟨h1, h2, h3⟩ := prs_n z1
      obtain ⟨g1, g2, g3, g4, g5, g6⟩ := takeG_good h1
      refine ⟨(takeN key s).m, s, takeG_ok _ _ _ _, (rightP g1).1, ?_, ?_, g6, ?_, h3⟩
      · unfold parseN at z2; rw [h3] at z2; exact z2
      · have := g3
        unfold takeN at h2
        rw [h2, List.take_length] at this
        exact this.symm
      · exact Prod.ext h3 z1
    unfold ansG at *
    split at h
    · rename_i hg
      rw [if_pos hg]
      obtain ⟨u, s, a1, a2, a3, a4, a5, a6, a7⟩ := go 4 hg
      exact ⟨(parseN key 4).1, 4, by
        obtain ⟨z1, z2⟩ := goodA_z hg
        obtain ⟨h1, h2, h3⟩ := prs_n z1
        obtain ⟨g1, g2, g3, g4, g5, g6⟩ := takeG_good h1
        unfold parseN at *
        rw [h3]
        refine ⟨takeG_ok _ _ _ _, (rightP g1).1, by rw [h3] at z2; exact z2, ?_, .inl rfl, Prod.ext h3 z1, rfl⟩
        have := g3
        unfold takeN at h2
        rw [h2, List.take_length] at this
        exact this.symm⟩
    · split at h
      · rename_i hn hg
        rw [if_neg hn, if_pos hg]
        exact ⟨(parseN key 16).1, 16, by
          obtain ⟨z1, z2⟩ := goodA_z hg
          obtain ⟨h1, h2, h3⟩ := prs_n z1
          obtain ⟨g1, g2, g3, g4, g5, g6⟩ := takeG_good h1
          unfold parseN at *
          rw [h3]
          refine ⟨takeG_ok _ _ _ _, (rightP g1).1, by rw [h3] at z2; exact z2, ?_, .inr rfl, Prod.ext h3 z1, rfl⟩
          have := g3
          unfold takeN at h2
          rw [h2, List.take_length] at this
          exact this.symm⟩
      · cases h
theorem RightM.p {m : Mr} (R : RightM m) : RightP m := ⟨R.k, R.bare, R.a0, R.a1, R.fr, R.fl⟩
theorem parts_len {m : Mr} (h : okM m) (R : RightM m) : (partsB m (ofF m.k).1).length ≤ 126 := by
  have h1 := partsB_len h (ofF m.k).1
  by_cases h4 : m.k = 4
  · obtain ⟨u, s, a1, a2, a3, a4, _⟩ := ansF_good (R.key h4)
    have h2 := partsB_len a1 (ofF u.k).1
    rw [a2.key (by omega)] at h2
    rw [a4, mbytes_len] at h1
    simp only [List.length_nil] at h2
    omega
  · rw [R.p.key h4] at h1
    simp only [List.length_nil] at h1
    omega
theorem leaf_key {m : Mr} (R : RightM m) (h4 : m.k = 4) : ∃ a b r, m.key = a :: b :: r ∧ r.length = b.toNat := by
  obtain ⟨u, s, a1, a2, a3, a4, _⟩ := ansF_good (R.key h4)
  have h2 := partsB_len a1 (ofF u.k).1
  rw [a2.key (by omega)] at h2
  simp only [List.length_nil] at h2
  refine ⟨_, _, _, a4, ?_⟩
  simp; omega
/-- What Take makes of what Bytes wrote. -/
theorem takeM_back {m : Mr} {s : Int} {t : List UInt8} (h : okM m) (hr : rightF m = true) (hs : s = 4 ∨ s = 16) : takeM (mbytes m ++ t) s = if szF s m = true then ⟨m, (mbytes m).length, 0⟩ else ⟨mr0, 0, 4⟩ := by
  have R := rightM hr
  have := parts_len h R
  exact takeG_back h R.p hr hs (by omega) (leaf_key R)
theorem parseM_back {m : Mr} {s : Int} (h : okM m) (hr : rightF m = true) (hs : s = 4 ∨ s = 16) : parseM (mbytes m) s = if szF s m = true then (m, 0) else (mr0, 4) := by
  have := takeM_back (t := []) h hr hs
  rw [List.append_nil] at this
  unfold parseM
  rw [this]
  cases szF s m with
  | true => simp [prs]
  | false => simp [prs]
theorem szF_ex {m : Mr} (hr : rightF m = true) : ∃ s, (s = 4 ∨ s = 16) ∧ szF s m = true := by
  have R := rightM hr
  by_cases h4 : m.k = 4
  · obtain ⟨u, s, a1, a2, a3, a4, a5, a6, _⟩ := ansF_good (R.key h4)
    refine ⟨s, a5, ?_⟩
    have hf : (ofF m.k).1.fl = false := by rw [h4]; rfl
    obtain ⟨h1, h2⟩ := R.p.no hf
    unfold szF sizedG sizeOk
    rw [a6, h1, h2]
    simp [fitA, ad0]
  · obtain ⟨s, h1, h2⟩ := size_ex R.p
    refine ⟨s, h1, ?_⟩
    unfold szF sizedG
    rw [h2]; simp [h4]
theorem takeM_good {l : List UInt8} {s : Int} (h : (takeM l s).e = 0) : rightF (takeM l s).m = true ∧ mbytes (takeM l s).m = l.take (takeM l s).n ∧ (takeM l s).n ≤ l.length ∧ 2 ≤ (takeM l s).n ∧ (s = 4 ∨ s = 16) := by
  obtain ⟨g1, g2, g3, g4, g5, g6⟩ := takeG_good h
  exact ⟨g1, g3, g4, g5, g6⟩
/-- Of what Bytes wrote of a route that may be answered, a leaf's key is made. -/
theorem ansF_back {m : Mr} (h : okM m) (R : RightP m) (hk : m.k = 2 ∨ m.k = 3) : (ansF (mbytes m)).2 = true := by
  have hX := byteK (k := m.k) (by omega) (by omega)
  have hh : ¬ (mbytes m).head? = some 4 := by
    unfold mbytes
    rw [List.head?_cons]
    intro e
    injection e with e
    rw [e] at hX
    have : ((4 : UInt8).toNat : Int) = 4 := rfl
    omega
  have hl := partsB_len h (ofF m.k).1
  rw [R.key (by omega)] at hl
  simp only [List.length_nil] at hl
  have hp : ∀ s, s = 4 ∨ s = 16 → parseN (mbytes m) s = if szN s m = true then (m, 0) else (mr0, 4) := fun s hs => by
    have := takeG_back (rt := rtN) (sz := szN s) (t := []) h R (rightG_of R fun e => by omega) hs (by omega) (fun e => by omega)
    rw [List.append_nil] at this
    unfold parseN takeN
    rw [this]
    cases szN s m with
    | true => simp [prs]
    | false => simp [prs]
  have hz : ∀ s, sizeOk m s = true → szN s m = true := fun s e => by unfold szN sizedG; rw [e]; simp
  have good : ∀ s, s = 4 ∨ s = 16 → sizeOk m s = true → goodA (parseN (mbytes m) s) = true := fun s hs e => by
    rw [hp s hs, if_pos (hz s e)]
    unfold goodA; simpa using hk
  obtain ⟨s, hs, e⟩ := size_ex R
  have := good s hs e
  unfold ansF
  rw [if_neg hh]
  unfold ansG
  split
  · rfl
  · rename_i n4
    split
    · rfl
    · rename_i n16
      rcases hs with rfl | rfl
      · exact absurd this n4
      · exact absurd this n16
/-! Leaves. -/
def leafM (m : Mr) (a : Ad) : Mr := ⟨4, z8, 0, ad0, ad0, a, mbytes m⟩
theorem leafM_ok {m : Mr} {a : Ad} (h : okD a) : okM (leafM m a) := ⟨rfl, rfl, rfl, h⟩
theorem leaf_right {m : Mr} {a : Ad} : rightF (leafM m a) = (someA a && (ansF (mbytes m)).2) := by
  have e : (bareF (leafM m a) (ofF (leafM m a).k).1 == leafM m a) = true := by rw [beq_iff_eq]; rfl
  unfold rightF rightG
  rw [e]
  show (true && (true && (decide ((0 : Int) ≤ 0) && (decide ((0 : Int) ≤ 4294967295) && ((!true || someA a) && ((!false || _) && (decide ((4 : Int) ≠ 4) || _))))))) = _
  simp [leafM]
def intraM (a : Ad) : Mr := ⟨1, z8, 0, ad0, ad0, a, []⟩
theorem intra_right {a : Ad} : rightF (intraM a) = someA a := by
  have e : (bareF (intraM a) (ofF (intraM a).k).1 == intraM a) = true := by rw [beq_iff_eq]; rfl
  unfold rightF rightG
  rw [e]
  show (true && (true && (decide ((0 : Int) ≤ 0) && (decide ((0 : Int) ≤ 4294967295) && ((!true || someA a) && ((!false || _) && (decide ((1 : Int) ≠ 4) || _))))))) = _
  simp
theorem leaf_kind {m : Mr} (hm : okM m) {a : Ad} (hr : rightF m = true) (h : rightF (leafM m a) = true) : m.k = 2 ∨ m.k = 3 := by
  rw [leaf_right, Bool.and_eq_true] at h
  obtain ⟨u, s, a1, a2, a3, a4, _⟩ := ansF_good h.2
  have k1 := (rightM hr).p.kk
  have e := congrArg List.head? a4
  unfold mbytes at e
  rw [List.head?_cons, List.head?_cons] at e
  injection e with e
  have h1 := byteK (k := m.k) (by omega) (by omega)
  have h2 := byteK (k := u.k) (by omega) (by omega)
  rw [e] at h1
  omega
end Go.Proofs.YtdkjcadffhnjgaaDoor
