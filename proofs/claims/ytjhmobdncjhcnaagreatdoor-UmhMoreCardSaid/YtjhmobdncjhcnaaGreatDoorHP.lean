/- mroute.answered. -/
import Derived.Test.YtjhmobdncjhcnaaGreatDoorHO
namespace Go.Proofs.YtjhmobdncjhcnaaGreatDoor
open Go Go.V
set_option maxRecDepth 10000
attribute [local irreducible] vBuild vCallV
def goodA (t : Mr × Int) : Bool := decide (t.2 = 0) && (decide (t.1.k = 2) || decide (t.1.k = 3))
def ansG (P : Int → Mr × Int) : Mr × Bool := if goodA (P 4) = true then ((P 4).1, true) else if goodA (P 16) = true then ((P 16).1, true) else (mr0, false)
set_option maxHeartbeats 4000000 in
theorem uAns4 {t : List UInt8} : U Tryz.prog 187 [.str (4 :: t)] (.tup [.agg mz, .bool false]) := by
  intro σ Post hk
  have w1 := mz_zz
  have w2 := mz_zy
  have w3 := mz_all
  have w4 := mz_len
  have w5 := mz_sc
  have i0 : (4 :: t)[0]? = some (4 : UInt8) := rfl
  have k1 : IntKind.i64.wrap ((4 : UInt8).toNat : Int) = 4 := rfl
  refine T187 fun hB hA => ?_
  refine W ?_
  exact hk
theorem byte_ne4 {x : UInt8} (h : x ≠ 4) : ¬ (x.toNat : Int) = 4 := fun e => h (UInt8.toNat_inj.1 (by rw [show (4 : UInt8).toNat = 4 from rfl]; omega))
set_option maxHeartbeats 8000000 in
theorem uAnsG {key : List UInt8} {P : Int → Mr × Int} (hkl : key.length ≤ 140737488355328) (hkey : key.head? ≠ some 4) (hP : ∀ s, s = 4 ∨ s = 16 → U Tryz.prog 171 [.sl (bsl key), .int .i64 s] (.tup [.agg (mrc (P s).1), .int .i64 (P s).2])) (okP : ∀ s, s = 4 ∨ s = 16 → okM (P s).1) :
    U Tryz.prog 187 [.str key] (.tup [.agg (mrc (ansG P).1), .bool (ansG P).2]) := by
  intro σ Post hk
  have w1 := mz_zz
  have w2 := mz_zy
  have w3 := mz_all
  have w4 := mz_len
  have w5 := mz_sc
  have p4 := hP 4 (.inl rfl)
  have p16 := hP 16 (.inr rfl)
  have eb : bsl key = bytesEs key := by unfold bsl bytesEs; rfl
  rw [eb] at p4 p16
  have o4 := okP 4 (.inl rfl)
  have o16 := okP 16 (.inr rfl)
  unfold ansG at hk
  generalize P 4 = A at *
  generalize P 16 = B at *
  have a1 := mz_st o4
  have a2 : splice mz 0 (mrc A.1) = mrc A.1 := ms_all o4
  have a3 := mrc_len o4
  have a4 := mrc_sc (m := A.1)
  have a5 := mrc_all o4
  have a6 : cut (mrc A.1) 0 none = some (.int .i64 A.1.k) := rfl
  have b1 := mz_st o16
  have b2 : splice mz 0 (mrc B.1) = mrc B.1 := ms_all o16
  have b3 := mrc_len o16
  have b4 := mrc_sc (m := B.1)
  have b5 := mrc_all o16
  have b6 : cut (mrc B.1) 0 none = some (.int .i64 B.1.k) := rfl
  refine T187 fun hB hA => ?_
  refine cutp (fun e h => e 0 = .str key ∧ (∃ g, e 2 = .ptr (σ.length + 0) g 0 ∧ g = 1) ∧ h = σ ++ [(1, .box mz false), (0, .dead), (0, .dead), (0, .dead)]) ?_ ?_
  · refine W ?_
    exact ⟨rfl, ⟨1, rfl, rfl⟩, rfl⟩
  rintro u _ ⟨e0, ⟨_, e2, rfl⟩, rfl⟩
  refine cutp (fun e h => e 0 = .str key ∧ (∃ g, e 2 = .ptr (σ.length + 0) g 0 ∧ g = 1) ∧ h = σ ++ [(1, .box mz false), (0, .dead), (0, .dead), (0, .dead)]) ?_ ?_
  · cases key with
    | nil =>
      refine W ?_
      exact ⟨e0, ⟨1, e2, rfl⟩, rfl⟩
    | cons x t =>
      have hx : ¬ (x.toNat : Int) = 4 := byte_ne4 fun e => hkey (by rw [List.head?_cons, e])
      have i0 : (x :: t)[0]? = some x := rfl
      have hx2 := x.toNat_lt
      have k1 : IntKind.i64.wrap (x.toNat : Int) = (x.toNat : Int) := w_i64 (by omega) (by omega)
      refine W ?_
      exact ⟨e0, ⟨1, e2, rfl⟩, rfl⟩
  clear e0 e2
  rintro u _ ⟨e0, ⟨_, e2, rfl⟩, rfl⟩
  refine W ?_
  refine lp (fun j e h => e 0 = .str key ∧ (∃ g, e 2 = .ptr (σ.length + 0) g 0 ∧ g = 1) ∧ (∃ g, e 17 = .row (σ.length + 1) g ∧ g = 1) ∧ e 18 = .int .i64 2 ∧ (j = 2 ∧ e 19 = .int .i64 0 ∨ j = 1 ∧ e 19 = .int .i64 1 ∧ goodA A = false ∨ j = 0 ∧ e 19 = .int .i64 2 ∧ goodA A = false ∧ goodA B = false) ∧
    ∃ g2 b2 g3 b3, h = σ ++ [(1, .box mz false), (1, .row 1 [[.int .i64 4], [.int .i64 16]] false), (g2, b2), (g3, b3)]) 2 ⟨e0, ⟨1, e2, rfl⟩, ⟨1, rfl, rfl⟩, rfl, .inl ⟨rfl, rfl⟩, _, _, _, _, rfl⟩ ?_
  intro j u s' hI
  revert hI
  generalize mix _ u _ = E
  rintro ⟨e0, ⟨_, e2, rfl⟩, ⟨_, e17, rfl⟩, e18, hj, g2, b2', g3, b3', rfl⟩
  clear u
  have ln2 : ([[PV.int IntKind.i64 4], [PV.int IntKind.i64 16]] : List (List PV)).length = 2 := rfl
  rcases hj with ⟨rfl, e19⟩ | ⟨rfl, e19, hA0⟩ | ⟨rfl, e19, hA0, hB0⟩
  · refine W ?_
    refine cu p4 ?_
    by_cases hz : A.2 = 0
    · by_cases h2 : A.1.k = 2
      · have hb : goodA A = true := by unfold goodA; simp [hz, h2]
        rw [if_pos hb] at hk
        refine W ?_
        exact hk
      · by_cases h3 : A.1.k = 3
        · have hb : goodA A = true := by unfold goodA; simp [hz, h3]
          rw [if_pos hb] at hk
          refine W ?_
          exact hk
        · have hb : goodA A = false := by unfold goodA; simp [hz, h2, h3]
          refine W ?_
          exact ⟨1, by omega, e0, ⟨1, e2, rfl⟩, ⟨1, e17, rfl⟩, e18, .inr (.inl ⟨rfl, rfl, hb⟩), _, _, _, _, rfl⟩
    · have hb : goodA A = false := by unfold goodA; simp [hz]
      refine W ?_
      exact ⟨1, by omega, e0, ⟨1, e2, rfl⟩, ⟨1, e17, rfl⟩, e18, .inr (.inl ⟨rfl, rfl, hb⟩), _, _, _, _, rfl⟩
  · refine W ?_
    refine cu p16 ?_
    by_cases hz : B.2 = 0
    · by_cases h2 : B.1.k = 2
      · have hb : goodA B = true := by unfold goodA; simp [hz, h2]
        rw [if_neg (by rw [hA0]; simp)] at hk
        rw [if_pos hb] at hk
        refine W ?_
        exact hk
      · by_cases h3 : B.1.k = 3
        · have hb : goodA B = true := by unfold goodA; simp [hz, h3]
          rw [if_neg (by rw [hA0]; simp)] at hk
          rw [if_pos hb] at hk
          refine W ?_
          exact hk
        · have hb : goodA B = false := by unfold goodA; simp [hz, h2, h3]
          refine W ?_
          exact ⟨0, by omega, e0, ⟨1, e2, rfl⟩, ⟨1, e17, rfl⟩, e18, .inr (.inr ⟨rfl, rfl, hA0, hb⟩), _, _, _, _, rfl⟩
    · have hb : goodA B = false := by unfold goodA; simp [hz]
      refine W ?_
      exact ⟨0, by omega, e0, ⟨1, e2, rfl⟩, ⟨1, e17, rfl⟩, e18, .inr (.inr ⟨rfl, rfl, hA0, hb⟩), _, _, _, _, rfl⟩
  · rw [if_neg (by rw [hA0]; simp), if_neg (by rw [hB0]; simp)] at hk
    refine W ?_
    exact hk
end Go.Proofs.YtjhmobdncjhcnaaGreatDoor
/- mroute.sized. -/
namespace Go.Proofs.YtjhmobdncjhcnaaGreatDoor
open Go Go.V
set_option maxRecDepth 10000
attribute [local irreducible] vBuild vCallV vBuildSlice
def fitA (a : Ad) (s : Int) : Bool := decide (a.s = 0) || decide (a.s = s)
def sizeOk (m : Mr) (s : Int) : Bool := fitA m.s s && fitA m.g s
def sizedG (m : Mr) (s : Int) (e : Int) : Bool := sizeOk m s && (decide (m.k ≠ 4) || decide (e = 0))
set_option maxHeartbeats 4000000 in
theorem uSizedG {m : Mr} {s : Int} {t : Mr × Int} (h : okM m) (hkl : m.key.length ≤ 140737488355328) (ht : okM t.1) (hP : m.k = 4 → U Tryz.prog 171 [.sl (bsl m.key), .int .i64 s] (.tup [.agg (mrc t.1), .int .i64 t.2])) :
    U Tryz.prog 224 [.agg (mrc m), .int .i64 s] (.bool (sizedG m s t.2)) := by
  intro σ Post hk
  have sc := mrc_sc (m := m)
  have ln := mrc_len h
  have c0 := mrc_all h
  have c3 := mc_s h
  have c4 := mc_g h
  have c6 := mc_key h
  have c7 : cut (mrc m) 0 none = some (.int .i64 m.k) := rfl
  have l1 := adc_len h.s
  have l2 := adc_len h.g
  have s1' := adc_sc (a := m.s)
  have s2' := adc_sc (a := m.g)
  have d1 := ad_set h.s
  have d2 := ad_set h.g
  have d3 := adc_all h.s
  have d4 := adc_all h.g
  have d5 := adc_s (a := m.s)
  have d6 := adc_s (a := m.g)
  have w6 := mz_st ht
  have w8 := mrc_len ht
  have w9 := mrc_sc (m := t.1)
  have ln2 : ([adc m.s, adc m.g] : List (List PV)).length = 2 := rfl
  refine T224 fun hB hA => ?_
  refine W ?_
  refine lp (fun j e h => e 1 = .int .i64 s ∧ (∃ g, e 2 = .ptr (σ.length + 0) g 0 ∧ g = 1) ∧ (∃ g, e 13 = .row (σ.length + 1) g ∧ g = 1) ∧ e 14 = .int .i64 2 ∧ (j = 2 ∧ e 15 = .int .i64 0 ∨ j = 1 ∧ e 15 = .int .i64 1 ∧ fitA m.s s = true ∨ j = 0 ∧ e 15 = .int .i64 2 ∧ fitA m.s s = true ∧ fitA m.g s = true) ∧
    ∃ g2 b2 g3 b3 g4 b4, h = σ ++ [(1, .box (mrc m) false), (1, .row 17 [adc m.s, adc m.g] false), (g2, b2), (g3, b3), (g4, b4)]) 2 ⟨rfl, ⟨1, rfl, rfl⟩, ⟨1, rfl, rfl⟩, rfl, .inl ⟨rfl, rfl⟩, _, _, _, _, _, _, rfl⟩ ?_
  intro j u s' hI
  revert hI
  generalize mix _ u _ = E
  rintro ⟨e1, ⟨_, e2, rfl⟩, ⟨_, e13, rfl⟩, e14, hj, g2, b2, g3, b3, g4, b4, rfl⟩
  clear u
  unfold sizedG sizeOk at hk
  rcases hj with ⟨rfl, e15⟩ | ⟨rfl, e15, hA0⟩ | ⟨rfl, e15, hA0, hB0⟩
  · by_cases z0 : m.s.s = 0
    · have hf : fitA m.s s = true := by unfold fitA; simp [z0]
      refine W ?_
      exact ⟨1, by omega, e1, ⟨1, e2, rfl⟩, ⟨1, e13, rfl⟩, e14, .inr (.inl ⟨rfl, rfl, hf⟩), _, _, _, _, _, _, rfl⟩
    · by_cases z1 : m.s.s = s
      · have hf : fitA m.s s = true := by unfold fitA; simp [z1]
        refine W ?_
        exact ⟨1, by omega, e1, ⟨1, e2, rfl⟩, ⟨1, e13, rfl⟩, e14, .inr (.inl ⟨rfl, rfl, hf⟩), _, _, _, _, _, _, rfl⟩
      · have hf : fitA m.s s = false := by unfold fitA; simp [z0, z1]
        rw [hf, Bool.false_and, Bool.false_and] at hk
        refine W ?_
        exact hk
  · rw [hA0, Bool.true_and] at hk
    by_cases z0 : m.g.s = 0
    · have hf : fitA m.g s = true := by unfold fitA; simp [z0]
      refine W ?_
      exact ⟨0, by omega, e1, ⟨1, e2, rfl⟩, ⟨1, e13, rfl⟩, e14, .inr (.inr ⟨rfl, rfl, hA0, hf⟩), _, _, _, _, _, _, rfl⟩
    · by_cases z1 : m.g.s = s
      · have hf : fitA m.g s = true := by unfold fitA; simp [z1]
        refine W ?_
        exact ⟨0, by omega, e1, ⟨1, e2, rfl⟩, ⟨1, e13, rfl⟩, e14, .inr (.inr ⟨rfl, rfl, hA0, hf⟩), _, _, _, _, _, _, rfl⟩
      · have hf : fitA m.g s = false := by unfold fitA; simp [z0, z1]
        rw [hf, Bool.false_and] at hk
        refine W ?_
        exact hk
  · rw [hA0, hB0, Bool.true_and, Bool.true_and] at hk
    by_cases k4 : m.k = 4
    · rw [decide_eq_false (by simpa using k4), Bool.false_or] at hk
      have p := hP k4
      have eb : bsl m.key = bytesEs m.key := rfl
      rw [eb] at p
      refine W ?_
      refine cu p ?_
      by_cases hz : t.2 = 0
      · rw [decide_eq_true hz] at hk
        refine W ?_
        exact hk
      · rw [decide_eq_false hz] at hk
        refine W ?_
        exact hk
    · rw [decide_eq_true k4, Bool.true_or] at hk
      refine W ?_
      exact hk
end Go.Proofs.YtjhmobdncjhcnaaGreatDoor
/- mroute: Right, Take, Parse in full. -/
namespace Go.Proofs.YtjhmobdncjhcnaaGreatDoor
open Go Go.V
set_option maxRecDepth 10000
theorem rs1_key (p : Pt) (S : RS) : (rs1 p S).m.key = S.m.key := by unfold rs1; split <;> rfl
theorem rs2_key (p : Pt) (S : RS) : (rs2 p S).m.key = S.m.key := by unfold rs2; split <;> rfl
theorem rs3_key (p : Pt) (S : RS) : (rs3 p S).m.key = S.m.key := by unfold rs3; split <;> rfl
theorem rs4_key (p : Pt) (S : RS) : (rs4 p S).m.key = S.m.key := by unfold rs4; split <;> rfl
theorem readM_key (k : Int) (l : List UInt8) (bad : Bool) (key : List UInt8) : (readM k l bad key).m.key = key := by unfold readM; rw [rs4_key, rs3_key, rs2_key, rs1_key]; rfl
theorem takeG_ok (rt sz : Mr → Bool) (l : List UInt8) (s : Int) : okM (takeG rt sz l s).m := by
  unfold takeG
  split
  · exact mr0_ok
  · split
    · split
      · exact mr0_ok
      · split
        · exact mr0_ok
        · split
          · exact readM_ok _ _ _ _
          · exact mr0_ok
    · exact mr0_ok
theorem prs_ok {t : MT} (h : okM t.m) (n : Nat) : okM (prs t n).1 := by
  unfold prs; split
  · exact mr0_ok
  · split
    · exact mr0_ok
    · exact h
/-! What does not begin with a leaf's mark. -/
def rtN (m : Mr) : Bool := rightG m false
def szN (s : Int) (m : Mr) : Bool := sizedG m s 0
def takeN (l : List UInt8) (s : Int) : MT := takeG rtN (szN s) l s
def parseN (l : List UInt8) (s : Int) : Mr × Int := prs (takeN l s) l.length
theorem uTakeN {l : List UInt8} {s : Int} (hl : l.length ≤ 140737488355328) (h4 : l.head? ≠ some 4) : U Tryz.prog 201 [.sl (bsl l), .int .i64 s] (.tup [.agg (mrc (takeN l s).m), .int .i64 ((takeN l s).n : Int), .int .i64 (takeN l s).e]) := by
  have hx : ∀ x t, l = x :: t → ¬ (x.toNat : Int) = 4 := fun x t e => byte_ne4 fun e' => h4 (by rw [e, List.head?_cons, e'])
  refine uTakeG hl (fun x t e key l' bad hk => ?_) (fun x t e key l' bad hk _ => ?_)
  · exact uRightG (X := mr0) (readM_ok _ _ _ _) mr0_ok fun h => absurd (by rw [readM_k] at h; exact h) (hx x t e)
  · exact uSizedG (t := (mr0, 0)) (readM_ok _ _ _ _) (by rw [readM_key]; omega) mr0_ok fun h => absurd (by rw [readM_k] at h; exact h) (hx x t e)
theorem uParseN {l : List UInt8} {s : Int} (hl : l.length ≤ 140737488355328) (h4 : l.head? ≠ some 4) : U Tryz.prog 171 [.sl (bsl l), .int .i64 s] (.tup [.agg (mrc (parseN l s).1), .int .i64 (parseN l s).2]) :=
  uParseG (takeG_ok _ _ _ _) (uTakeN hl h4)
def ansF (key : List UInt8) : Mr × Bool := if key.head? = some 4 then (mr0, false) else ansG (parseN key)
theorem ansG_ok {P : Int → Mr × Int} (h : ∀ s, okM (P s).1) : okM (ansG P).1 := by
  unfold ansG; split
  · exact h 4
  · split
    · exact h 16
    · exact mr0_ok
theorem ansF_ok (key : List UInt8) : okM (ansF key).1 := by
  unfold ansF; split
  · exact mr0_ok
  · exact ansG_ok fun s => prs_ok (takeG_ok _ _ _ _) _
theorem uAns {key : List UInt8} (hkl : key.length ≤ 140737488355328) : U Tryz.prog 187 [.str key] (.tup [.agg (mrc (ansF key).1), .bool (ansF key).2]) := by
  unfold ansF
  split
  · rename_i h
    cases key with
    | nil => cases h
    | cons x t =>
      rw [List.head?_cons, Option.some.injEq] at h
      subst h
      exact uAns4
  · rename_i h
    exact uAnsG hkl h (fun s _ => uParseN hkl h) fun s _ => prs_ok (takeG_ok _ _ _ _) _
def rightF (m : Mr) : Bool := rightG m (ansF m.key).2
theorem uRightM {m : Mr} (h : okM m) (hkl : m.key.length ≤ 140737488355328) : U Tryz.prog 143 [.agg (mrc m)] (.bool (rightF m)) :=
  uRightG h (ansF_ok m.key) fun _ => uAns hkl
theorem rightF_key {m : Mr} (h : rightF m = true) (h4 : m.k = 4) : m.key.head? ≠ some 4 := by
  intro e
  unfold rightF rightG ansF at h
  rw [if_pos e, decide_eq_false (show ¬ m.k ≠ 4 by simpa using h4)] at h
  simp at h
def szF (s : Int) (m : Mr) : Bool := sizedG m s (parseN m.key s).2
theorem uSizedM {m : Mr} {s : Int} (h : okM m) (hkl : m.key.length ≤ 140737488355328) (hr : rightF m = true) : U Tryz.prog 224 [.agg (mrc m), .int .i64 s] (.bool (szF s m)) :=
  uSizedG (t := parseN m.key s) h hkl (prs_ok (takeG_ok _ _ _ _) _) fun h4 => uParseN hkl (rightF_key hr h4)
def takeM (l : List UInt8) (s : Int) : MT := takeG rightF (szF s) l s
theorem uTakeM {l : List UInt8} {s : Int} (hl : l.length ≤ 140737488355328) : U Tryz.prog 201 [.sl (bsl l), .int .i64 s] (.tup [.agg (mrc (takeM l s).m), .int .i64 ((takeM l s).n : Int), .int .i64 (takeM l s).e]) :=
  uTakeG hl (fun x t _ key l' bad hk => uRightM (readM_ok _ _ _ _) (by rw [readM_key]; omega)) (fun x t _ key l' bad hk hr => uSizedM (readM_ok _ _ _ _) (by rw [readM_key]; omega) hr)
end Go.Proofs.YtjhmobdncjhcnaaGreatDoor
/- mroute.Bytes: what it writes (its walk is not written yet). -/
namespace Go.Proofs.YtjhmobdncjhcnaaGreatDoor
open Go Go.V
set_option maxRecDepth 10000
def partsB (m : Mr) (p : Pt) : List UInt8 := m.key ++ ((if p.rd = true then m.rd else []) ++ ((if p.aa = true then be m.aa.toNat 4 else []) ++ ((if p.fl = true then longF m.s ++ longF m.g else []) ++ (if p.fr = true then abytes m.f else []))))
def mbytes (m : Mr) : List UInt8 := UInt8.ofNat m.k.toNat :: UInt8.ofNat (partsB m (ofF m.k).1).length :: partsB m (ofF m.k).1
theorem longF_len {a : Ad} (h : okD a) : (longF a).length ≤ 17 := by
  have := abytes_len h
  unfold longF
  rw [List.length_cons]; omega
theorem partsB_len {m : Mr} (h : okM m) (p : Pt) : (partsB m p).length ≤ m.key.length + 62 := by
  have h1 := longF_len h.s
  have h2 := longF_len h.g
  have h3 := abytes_len h.f
  have h4 := h.rd
  have h5 := be_len m.aa.toNat 4
  unfold partsB
  cases p with
  | mk a b c d => cases a <;> cases b <;> cases c <;> cases d <;> simp only [List.length_append, if_true, if_false, Bool.false_eq_true, List.length_nil] <;> omega
end Go.Proofs.YtjhmobdncjhcnaaGreatDoor
/- cursor.Put, whose row is the caller's. -/
namespace Go.Proofs.YtjhmobdncjhcnaaGreatDoor
open Go Go.V
set_option maxRecDepth 10000
theorem cf126r : cFun Tryz.prog rawF true Tryz.f126 = some ⟨44, 3, vb126, [.tmp 6, .tmp 7], true⟩ := by kernel_rfl
theorem tPutR {σ L : VHeap} {Post : KP} {q z N K : Nat} {l : List UInt8} (h1 : 1 ≤ z) (h4 : z ≤ 4) (hn : q < 256 ^ z) (hl : l.length ≤ 1000000) (h0 : l ≠ []) (hk : ∀ g1 o1, Post (.tup [.row (N + (K + 4)) (z + 2), .int .i64 0]) (σ ++ (L ++ [(1, VObj.row 1 [] false), (g1, o1), (0, .dead), (1, .row 1 [] false), (z + 2, .row 1 (bsl (l ++ be q z)) false), (0, .dead)])))
    (hN : σ.length = N := by exact z_hn) (hL : L.length = K := by exact z_ll) : T Tryz.prog 126 [.sl (bsl l), .int .i64 q, .int .i64 z] (σ ++ L) Post := by
  subst hN hL
  have p8 : ∀ i, (256 : Nat) ^ i = 2 ^ (8 * i) := fun i => by rw [Nat.pow_mul]
  have hn4 : q < 256 ^ 4 := Nat.lt_of_lt_of_le hn (Nat.pow_le_pow_right (by omega) h4)
  have b1 : ibin .shr .i64 (q : Int) .i64 (8 * (z : Int)) = some (.int .i64 0) := by
    have := ib_shrN (a := q) (k := .i64) (k' := .i64) (n := 8 * z) (by show 8 * z ≤ 64; omega)
    rw [← p8, Nat.div_eq_of_lt hn] at this
    exact_mod_cast this
  refine T.walkR Tryz.func126 cf126r (Nat.le_of_ble_eq_true rfl) rfl ?_
  refine W ?_
  refine ct ?_
  refine tCloneR (l := l) (by omega) (fun h => absurd h h0) ?_
  refine W ?_
  refine lp (fun k e s => ∃ (i : Nat) (g1 : Nat) (o1 : VObj), i + k = z ∧ e 9 = .int .i64 (8 * ((z : Int) - 1 - i)) ∧ e 8 = .row ((σ ++ L).length + 4) (i + 2) ∧
      s = (σ ++ L) ++ [(1, .row 1 [] false), (g1, o1), (0, .dead), (1, .row 1 [] false), (i + 2, .row 1 (bsl (l ++ (be q z).take i)) false), (0, .dead)]) z ⟨0, 0, .dead, by simp, by simp; rfl, rfl, by rw [List.take_zero, List.append_nil]⟩ ?_
  rintro k u' _ ⟨i, g1, o1, hi, e9, e8, rfl⟩
  by_cases h5 : i < z
  · have b2 : ibin .shr .i64 (q : Int) .i64 (8 * ((z : Int) - 1 - i)) = some (.int .i64 ((q / 256 ^ (z - 1 - i) : Nat) : Int)) := by
      have := ib_shrN (a := q) (k := .i64) (k' := .i64) (n := 8 * (z - 1 - i)) (by show 8 * (z - 1 - i) ≤ 64; omega)
      rw [← p8] at this
      rw [← this]; congr 1; omega
    have b3 := wrap8 (q / 256 ^ (z - 1 - i))
    have b4 : (be q z).length = z := be_len q z
    refine W ?_
    refine ⟨k - 1, by omega, i + 1, g1 + 1, .row 1 [[byt (UInt8.ofNat (q / 256 ^ (z - 1 - i)))]] false, by omega, by show PV.int _ _ = _; congr 1; omega, rfl, ?_⟩
    rw [be_next q z i h5, ← List.append_assoc]
  · have h6 : (be q z).take i = be q z := List.take_of_length_le (by rw [be_len]; omega)
    have hiz : i = z := by omega
    rw [h6]
    refine W ?_
    refine ret_raw (.inl rfl) rfl (by exact z_rw) ?_
    rw [List.length_append, List.append_assoc, Nat.add_assoc, hiz]
    exact hk g1 o1
end Go.Proofs.YtjhmobdncjhcnaaGreatDoor
/- mroute.Bytes. -/
namespace Go.Proofs.YtjhmobdncjhcnaaGreatDoor
open Go Go.V
set_option maxRecDepth 10000
open D in
def vb90_4 : VC :=
  .seq (.seq (.region [m 19 (.field 0 (t 4)), m 20 (.load none (t 19))]) <|
  .cond (t 20) (.region [m 21 (.mov (t 6)), m 22 (.field 1 (t 1)), m 23 (.sliceArr 8 1 (t 22) none none), m 24 (.append 4 1 1 (t 21) (t 23)), m 6 (.mov (t 24))]) (.skip)) <|
  .seq (.seq (.region [m 25 (.field 1 (t 4)), m 26 (.load none (t 25))]) <|
  .cond (t 26) (.region [m 28 (.mov (t 6)), m 29 (.field 9 (t 1)), m 30 (.load none (t 29)), m 31 (.call false 126 [(t 28), (t 30), (.c (i 4))]), m 27 (.mov (t 31)), m 32 (.extract 0 (t 27)), m 33 (.extract 1 (t 27)), m 6 (.mov (t 32))]) (.skip)) <|
  .seq (.seq (.region [m 34 (.field 2 (t 4)), m 35 (.load none (t 34))]) <|
  .cond (t 35) (.dreg [(m 36 (.mov (t 6)), []), (m 37 (.field 10 (t 1)), []), (m 38 (.load (some 17) (t 37)), [1]), (m 39 (.call false 145 [(t 38)]), [2]), (m 40 (.append 5 1 1 (t 36) (t 39)), [0, 3, 3]), (m 41 (.field 27 (t 1)), []), (m 42 (.load (some 17) (t 41)), [5]), (m 43 (.call false 145 [(t 42)]), [6, 4]), (m 44 (.append 6 1 1 (t 40) (t 43)), [4, 7, 7]), (m 6 (.mov (t 44)), [8, 8, 0, 1, 2, 3, 4, 5, 6, 7, 8])] [(2, 0), (1, 1), (1, 2), (1, 3), (2, 5), (2, 6), (0, 4), (1, 7), (0, 8), (2, 9)] [0, 0, 2, 6, 15, 0, 32, 127, 255, 511]) (.skip)) <|
  .seq (.seq (.region [m 45 (.field 3 (t 4)), m 46 (.load none (t 45))]) <|
  .cond (t 46) (.region [m 47 (.mov (t 6)), m 48 (.field 44 (t 1)), m 49 (.load (some 17) (t 48)), m 50 (.call false 57 [(t 49)]), m 51 (.append 7 1 1 (t 47) (t 50)), m 6 (.mov (t 51))]) (.skip)) <|
  .seq (.region [m 52 (.field 0 (t 1)), m 53 (.load none (t 52)), m 54 (.convInt .u8 (t 53)), m 55 (.mov (t 6)), m 56 (.len (t 55)), m 57 (.convInt .u8 (t 56)), m 58 (.buildSlice 8 1 2 [o] [(0, (t 54)), (1, (t 57))]), m 59 (.mov (t 6)), m 60 (.append 9 1 1 (t 58) (t 59)), m 2 (.mov (t 60)), m 3 (.mov (.c q))]) <|
  .ret
open D in
theorem vb90_eq : vb90 =
  (.seq (.region [m 1 (.box 0 (t 0)), m 2 (.newRow 1 1), m 3 (.mov (.c q))]) <|
  .seq (.seq (.region [m 7 (.load (some 62) (t 1)), m 8 (.call false 143 [(t 7)]), m 9 (.un .not (t 8))]) <|
  .cond (t 9) (.seq (.region [m 2 (.newRow 1 1), m 3 (.mov (.c (i 1)))]) <|
  .ret) (.skip)) <|
  .seq (.region [m 11 (.field 0 (t 1)), m 12 (.load none (t 11)), m 13 (.call false 144 [(t 12)]), m 10 (.mov (t 13)), m 14 (.extract 0 (t 10)), m 15 (.extract 1 (t 10)), m 4 (.alloc 2 [(.bool false), (.bool false), (.bool false), (.bool false)]), e (.store 4 (t 4) (t 14)), m 5 (.mov (t 15))]) <|
  .seq (.region [m 16 (.field 61 (t 1)), m 17 (.load none (t 16)), m 18 (.s2b 3 (t 17)), m 6 (.mov (t 18))]) <|
  vb90_4) := rfl
theorem prs_n {t : MT} {n : Nat} (h : (prs t n).2 = 0) : t.e = 0 ∧ t.n = n ∧ (prs t n).1 = t.m := by
  unfold prs at *
  split at h
  · rename_i he; exact absurd h he
  · rename_i he
    split at h
    · cases h
    · rename_i hn
      rw [if_neg he, if_neg hn]
      exact ⟨Decidable.not_not.1 he, Decidable.not_not.1 hn, rfl⟩
theorem takeG_n {rt sz : Mr → Bool} {l : List UInt8} {s : Int} (h : (takeG rt sz l s).e = 0) : (takeG rt sz l s).n ≤ 257 := by
  unfold takeG at *
  split at h
  · cases h
  · rename_i hs
    rw [if_neg hs]
    split at h
    · rename_i x y r
      try dsimp only
      have := y.toNat_lt
      split at h
      · cases h
      · rename_i hl
        rw [if_neg hl]
        split at h
        · cases h
        · rename_i t ht
          split at h
          · rename_i hc
            rw [if_pos hc]; dsimp only; omega
          · cases h
    · cases h
theorem goodA_z {t : Mr × Int} (h : goodA t = true) : t.2 = 0 ∧ (t.1.k = 2 ∨ t.1.k = 3) := by
  unfold goodA at h; simpa using h
theorem ansF_len {key : List UInt8} (h : (ansF key).2 = true) : key.length ≤ 257 := by
  unfold ansF at h
  split at h
  · cases h
  · have go : ∀ s, goodA (parseN key s) = true → key.length ≤ 257 := fun s hs => by
      obtain ⟨h1, h2, _⟩ := prs_n (goodA_z hs).1
      rw [← h2]; exact takeG_n h1
    unfold ansG at h
    split at h
    · rename_i h4; exact go 4 h4
    · split at h
      · rename_i h16; exact go 16 h16
      · cases h
structure RightM (m : Mr) : Prop where
  k : (ofF m.k).2 = true
  bare : bareF m (ofF m.k).1 = m
  a0 : 0 ≤ m.aa
  a1 : m.aa ≤ 4294967295
  fr : (ofF m.k).1.fr = true → someA m.f = true
  fl : (ofF m.k).1.fl = true → flowsF m.s m.g (decide (m.k = 3)) = true
  key : m.k = 4 → (ansF m.key).2 = true
theorem rightM {m : Mr} (h : rightF m = true) : RightM m := by
  unfold rightF rightG at h
  simp only [Bool.and_eq_true, Bool.or_eq_true, Bool.not_eq_true', decide_eq_true_eq, beq_iff_eq] at h
  obtain ⟨h1, h2, h3, h4, h5, h6, h7⟩ := h
  refine ⟨h1, h2, h3, h4, fun e => ?_, fun e => ?_, fun e => ?_⟩
  · rcases h5 with h5 | h5
    · rw [e] at h5; cases h5
    · exact h5
  · rcases h6 with h6 | h6
    · rw [e] at h6; cases h6
    · exact h6
  · rcases h7 with h7 | h7
    · exact absurd e h7
    · exact h7
theorem rightM_len {m : Mr} (h : RightM m) : m.key.length ≤ 257 := by
  by_cases h4 : m.k = 4
  · exact ansF_len (h.key h4)
  · have := congrArg Mr.key h.bare
    unfold bareF at this
    dsimp only at this
    rw [if_neg h4] at this
    rw [← this]; simp
theorem flows_ok {s g : Ad} {w : Bool} (h : flowsF s g w = true) : okAd s = true ∧ okAd g = true := by
  unfold flowsF at h
  simp only [Bool.and_eq_true] at h
  exact ⟨h.1.1.1.1, h.1.1.1.2⟩
theorem vc_rd {m : Mr} (h : okM m) : VCut (mrc m) 1 8 (bsl m.rd) := ⟨by
  have : (mrc m).drop 1 = u8c m.rd ++ ([.int .i64 m.aa] ++ (adc m.s ++ (adc m.g ++ (adc m.f ++ [.str m.key])))) := rfl
  rw [this, List.take_left' (by rw [u8c_len, h.rd])]; simp [u8c, bsl, Function.comp_def]⟩
attribute [local irreducible] vBuild vCallV
set_option maxHeartbeats 2000000 in
theorem uMBytes0 {m : Mr} (h : okM m) (hkl : m.key.length ≤ 140737488355328) (hr : rightF m = false) : U Tryz.prog 90 [.agg (mrc m)] (.tup [.sl [], .int .i64 1]) := by
  intro σ Post hk
  have sc := mrc_sc (m := m)
  have ln := mrc_len h
  have c0 := mrc_all h
  refine T90 fun hB hA => ?_
  refine W ?_
  refine cu (uRightM h hkl) ?_
  rw [hr]
  refine W ?_
  exact hk
section
variable {m : Mr} {σ : VHeap} {Post : KP} {env : Env}
theorem mb_head (k : Int) (q : List UInt8) (h0 : 0 ≤ k) (h1 : k ≤ 7) : [[PV.int .u8 k], [byt (UInt8.ofNat q.length)]] ++ bsl q = bsl (UInt8.ofNat k.toNat :: UInt8.ofNat q.length :: q) := by
  show [PV.int .u8 k] :: [byt (UInt8.ofNat q.length)] :: bsl q = [byt (UInt8.ofNat k.toNat)] :: [byt (UInt8.ofNat q.length)] :: bsl q
  have : (UInt8.ofNat k.toNat).toNat = k.toNat := by simp; omega
  congr 2
  show PV.int _ _ = PV.int _ _
  congr 1
  omega
set_option maxHeartbeats 4000000 in
theorem mb1 (h : okM m) (R : RightM m) (h3 : m.k = 1) (hB : belH σ.length σ) (e1 : env 1 = .ptr (σ.length + 0) 1 0) (e4 : env 4 = .ptr (σ.length + 2) 1 0) (e6 : env 6 = .row (σ.length + 3) 1) (hk : Post (.tup [.sl (bsl (mbytes m)), .int .i64 0]) σ) :
    vrun Tryz.prog σ.length vb90_4 env (σ ++ [(1, VObj.box (mrc m) false), (1, .row 1 [] false), (1, .box (ptc ⟨true, false, false, true⟩) false), (1, .row 1 (bsl m.key) false), (0, .dead), (0, .dead), (0, .dead), (0, .dead), (0, .dead), (0, .dead)]) (vend vf90 (TrimP σ.length Post)) := by
  have hp : (ofF m.k).1 = ⟨true, false, false, true⟩ := by rw [h3]; rfl
  have kl := rightM_len R
  have ln := mrc_len h
  have c0 := mrc_all h
  have c2 := mc_as h
  have c3 := mc_s h
  have c4 := mc_g h
  have c5 := mc_f h
  have c7 : cut (mrc m) 0 none = some (.int .i64 m.k) := rfl
  have v1 := vc_rd h
  have lrd := h.rd
  have lf := abytes_len h.f
  have ls := longF_len h.s
  have lg := longF_len h.g
  have q1 : partsB m (ofF m.k).1 = ((m.key ++ m.rd) ++ abytes m.f) := by
    rw [hp]; unfold partsB; simp
  unfold mbytes at hk
  rw [q1, ← mb_head m.k ((m.key ++ m.rd) ++ abytes m.f) (by omega) (by omega)] at hk
  have ql : (((m.key ++ m.rd) ++ abytes m.f)).length ≤ 400 := by simp only [List.length_append]; omega
  have w9 := wrap8 (((m.key ++ m.rd) ++ abytes m.f)).length
  unfold vb90_4
  refine W ?_
  refine cu (uABytes h.f) ?_
  refine W ?_
  exact hk
set_option maxHeartbeats 4000000 in
theorem mb2 (h : okM m) (R : RightM m) (h3 : m.k = 2) (hB : belH σ.length σ) (e1 : env 1 = .ptr (σ.length + 0) 1 0) (e4 : env 4 = .ptr (σ.length + 2) 1 0) (e6 : env 6 = .row (σ.length + 3) 1) (hk : Post (.tup [.sl (bsl (mbytes m)), .int .i64 0]) σ) :
    vrun Tryz.prog σ.length vb90_4 env (σ ++ [(1, VObj.box (mrc m) false), (1, .row 1 [] false), (1, .box (ptc ⟨true, true, false, false⟩) false), (1, .row 1 (bsl m.key) false), (0, .dead), (0, .dead), (0, .dead), (0, .dead), (0, .dead), (0, .dead)]) (vend vf90 (TrimP σ.length Post)) := by
  have hp : (ofF m.k).1 = ⟨true, true, false, false⟩ := by rw [h3]; rfl
  have kl := rightM_len R
  have ln := mrc_len h
  have c0 := mrc_all h
  have c2 := mc_as h
  have c3 := mc_s h
  have c4 := mc_g h
  have c5 := mc_f h
  have c7 : cut (mrc m) 0 none = some (.int .i64 m.k) := rfl
  have v1 := vc_rd h
  have lrd := h.rd
  have lf := abytes_len h.f
  have ls := longF_len h.s
  have lg := longF_len h.g
  obtain ⟨a, ha⟩ : ∃ a : Nat, m.aa = (a : Int) := ⟨m.aa.toNat, (Int.toNat_of_nonneg R.a0).symm⟩
  have ha1 := R.a1
  have ht : m.aa.toNat = a := by omega
  rw [ha] at c2
  have lb := be_len a 4
  have q1 : partsB m (ofF m.k).1 = ((m.key ++ m.rd) ++ be a 4) := by
    rw [hp]; unfold partsB; rw [ht]; simp
  unfold mbytes at hk
  rw [q1, ← mb_head m.k ((m.key ++ m.rd) ++ be a 4) (by omega) (by omega)] at hk
  have ql : (((m.key ++ m.rd) ++ be a 4)).length ≤ 400 := by simp only [List.length_append]; omega
  have w9 := wrap8 (((m.key ++ m.rd) ++ be a 4)).length
  unfold vb90_4
  refine W ?_
  refine ct ?_
  refine tPutR (l := m.key ++ m.rd) (q := a) (z := 4) (by decide) (by decide) (by omega) (by rw [List.length_append]; omega) (fun e => by have := congrArg List.length e; rw [List.length_append, lrd] at this; simp at this) (fun g5 o5 => ?_)
  refine W ?_
  exact hk
set_option maxHeartbeats 4000000 in
theorem mb3 (h : okM m) (R : RightM m) (h3 : m.k = 3) (hB : belH σ.length σ) (e1 : env 1 = .ptr (σ.length + 0) 1 0) (e4 : env 4 = .ptr (σ.length + 2) 1 0) (e6 : env 6 = .row (σ.length + 3) 1) (hk : Post (.tup [.sl (bsl (mbytes m)), .int .i64 0]) σ) :
    vrun Tryz.prog σ.length vb90_4 env (σ ++ [(1, VObj.box (mrc m) false), (1, .row 1 [] false), (1, .box (ptc ⟨true, false, true, true⟩) false), (1, .row 1 (bsl m.key) false), (0, .dead), (0, .dead), (0, .dead), (0, .dead), (0, .dead), (0, .dead)]) (vend vf90 (TrimP σ.length Post)) := by
  have hp : (ofF m.k).1 = ⟨true, false, true, true⟩ := by rw [h3]; rfl
  have kl := rightM_len R
  have ln := mrc_len h
  have c0 := mrc_all h
  have c2 := mc_as h
  have c3 := mc_s h
  have c4 := mc_g h
  have c5 := mc_f h
  have c7 : cut (mrc m) 0 none = some (.int .i64 m.k) := rfl
  have v1 := vc_rd h
  have lrd := h.rd
  have lf := abytes_len h.f
  have ls := longF_len h.s
  have lg := longF_len h.g
  obtain ⟨o1, o2⟩ := flows_ok (R.fl (by rw [hp]))
  have q1 : partsB m (ofF m.k).1 = ((((m.key ++ m.rd) ++ longF m.s) ++ longF m.g) ++ abytes m.f) := by
    rw [hp]; unfold partsB; simp
  unfold mbytes at hk
  rw [q1, ← mb_head m.k ((((m.key ++ m.rd) ++ longF m.s) ++ longF m.g) ++ abytes m.f) (by omega) (by omega)] at hk
  have ql : (((((m.key ++ m.rd) ++ longF m.s) ++ longF m.g) ++ abytes m.f)).length ≤ 400 := by simp only [List.length_append]; omega
  have w9 := wrap8 (((((m.key ++ m.rd) ++ longF m.s) ++ longF m.g) ++ abytes m.f)).length
  unfold vb90_4
  refine Wo ?_
  refine drJ (fun h => vGet h (σ.length + 0) 1 = some (.box (mrc m) false)) [(2, 0), (1, 1), (1, 2), (1, 3), (2, 5), (2, 6), (0, 4), (1, 7), (0, 8), (2, 9)] (by kernel_rfl) (by kernel_rfl) (by exact z_ol) (lget rfl rfl) ?_
  refine Wo ?_
  refine s1 (uLong h.s o1) ?_
  refine Wo ?_
  refine sv_0 ?_
  refine est (by exact z_ea) ?_
  refine st_end ⟨lget rfl rfl, ?_⟩
  refine s1 (uLong h.g o2) ?_
  refine sv_0 ?_
  refine est (by exact z_ea) ?_
  refine st_end ⟨lget rfl rfl, ?_⟩
  refine W ?_
  refine cu (uABytes h.f) ?_
  refine W ?_
  exact hk
set_option maxHeartbeats 4000000 in
theorem mb4 (h : okM m) (R : RightM m) (h3 : m.k = 4) (hB : belH σ.length σ) (e1 : env 1 = .ptr (σ.length + 0) 1 0) (e4 : env 4 = .ptr (σ.length + 2) 1 0) (e6 : env 6 = .row (σ.length + 3) 1) (hk : Post (.tup [.sl (bsl (mbytes m)), .int .i64 0]) σ) :
    vrun Tryz.prog σ.length vb90_4 env (σ ++ [(1, VObj.box (mrc m) false), (1, .row 1 [] false), (1, .box (ptc ⟨false, false, false, true⟩) false), (1, .row 1 (bsl m.key) false), (0, .dead), (0, .dead), (0, .dead), (0, .dead), (0, .dead), (0, .dead)]) (vend vf90 (TrimP σ.length Post)) := by
  have hp : (ofF m.k).1 = ⟨false, false, false, true⟩ := by rw [h3]; rfl
  have kl := rightM_len R
  have ln := mrc_len h
  have c0 := mrc_all h
  have c2 := mc_as h
  have c3 := mc_s h
  have c4 := mc_g h
  have c5 := mc_f h
  have c7 : cut (mrc m) 0 none = some (.int .i64 m.k) := rfl
  have v1 := vc_rd h
  have lrd := h.rd
  have lf := abytes_len h.f
  have ls := longF_len h.s
  have lg := longF_len h.g
  have q1 : partsB m (ofF m.k).1 = (m.key ++ abytes m.f) := by
    rw [hp]; unfold partsB; simp
  unfold mbytes at hk
  rw [q1, ← mb_head m.k (m.key ++ abytes m.f) (by omega) (by omega)] at hk
  have ql : ((m.key ++ abytes m.f)).length ≤ 400 := by simp only [List.length_append]; omega
  have w9 := wrap8 ((m.key ++ abytes m.f)).length
  unfold vb90_4
  refine W ?_
  refine cu (uABytes h.f) ?_
  refine W ?_
  exact hk
set_option maxHeartbeats 4000000 in
theorem mb5 (h : okM m) (R : RightM m) (h3 : m.k = 5) (hB : belH σ.length σ) (e1 : env 1 = .ptr (σ.length + 0) 1 0) (e4 : env 4 = .ptr (σ.length + 2) 1 0) (e6 : env 6 = .row (σ.length + 3) 1) (hk : Post (.tup [.sl (bsl (mbytes m)), .int .i64 0]) σ) :
    vrun Tryz.prog σ.length vb90_4 env (σ ++ [(1, VObj.box (mrc m) false), (1, .row 1 [] false), (1, .box (ptc ⟨true, false, true, false⟩) false), (1, .row 1 (bsl m.key) false), (0, .dead), (0, .dead), (0, .dead), (0, .dead), (0, .dead), (0, .dead)]) (vend vf90 (TrimP σ.length Post)) := by
  have hp : (ofF m.k).1 = ⟨true, false, true, false⟩ := by rw [h3]; rfl
  have kl := rightM_len R
  have ln := mrc_len h
  have c0 := mrc_all h
  have c2 := mc_as h
  have c3 := mc_s h
  have c4 := mc_g h
  have c5 := mc_f h
  have c7 : cut (mrc m) 0 none = some (.int .i64 m.k) := rfl
  have v1 := vc_rd h
  have lrd := h.rd
  have lf := abytes_len h.f
  have ls := longF_len h.s
  have lg := longF_len h.g
  obtain ⟨o1, o2⟩ := flows_ok (R.fl (by rw [hp]))
  have q1 : partsB m (ofF m.k).1 = (((m.key ++ m.rd) ++ longF m.s) ++ longF m.g) := by
    rw [hp]; unfold partsB; simp
  unfold mbytes at hk
  rw [q1, ← mb_head m.k (((m.key ++ m.rd) ++ longF m.s) ++ longF m.g) (by omega) (by omega)] at hk
  have ql : ((((m.key ++ m.rd) ++ longF m.s) ++ longF m.g)).length ≤ 400 := by simp only [List.length_append]; omega
  have w9 := wrap8 ((((m.key ++ m.rd) ++ longF m.s) ++ longF m.g)).length
  unfold vb90_4
  refine Wo ?_
  refine drJ (fun h => vGet h (σ.length + 0) 1 = some (.box (mrc m) false)) [(2, 0), (1, 1), (1, 2), (1, 3), (2, 5), (2, 6), (0, 4), (1, 7), (0, 8), (2, 9)] (by kernel_rfl) (by kernel_rfl) (by exact z_ol) (lget rfl rfl) ?_
  refine Wo ?_
  refine s1 (uLong h.s o1) ?_
  refine Wo ?_
  refine sv_0 ?_
  refine est (by exact z_ea) ?_
  refine st_end ⟨lget rfl rfl, ?_⟩
  refine s1 (uLong h.g o2) ?_
  refine sv_0 ?_
  refine est (by exact z_ea) ?_
  refine st_end ⟨lget rfl rfl, ?_⟩
  refine W ?_
  exact hk
set_option maxHeartbeats 4000000 in
theorem mb6 (h : okM m) (R : RightM m) (h3 : m.k = 6 ∨ m.k = 7) (hB : belH σ.length σ) (e1 : env 1 = .ptr (σ.length + 0) 1 0) (e4 : env 4 = .ptr (σ.length + 2) 1 0) (e6 : env 6 = .row (σ.length + 3) 1) (hk : Post (.tup [.sl (bsl (mbytes m)), .int .i64 0]) σ) :
    vrun Tryz.prog σ.length vb90_4 env (σ ++ [(1, VObj.box (mrc m) false), (1, .row 1 [] false), (1, .box (ptc ⟨true, true, true, false⟩) false), (1, .row 1 (bsl m.key) false), (0, .dead), (0, .dead), (0, .dead), (0, .dead), (0, .dead), (0, .dead)]) (vend vf90 (TrimP σ.length Post)) := by
  have hp : (ofF m.k).1 = ⟨true, true, true, false⟩ := by rcases h3 with h3 | h3 <;> rw [h3] <;> rfl
  have kl := rightM_len R
  have ln := mrc_len h
  have c0 := mrc_all h
  have c2 := mc_as h
  have c3 := mc_s h
  have c4 := mc_g h
  have c5 := mc_f h
  have c7 : cut (mrc m) 0 none = some (.int .i64 m.k) := rfl
  have v1 := vc_rd h
  have lrd := h.rd
  have lf := abytes_len h.f
  have ls := longF_len h.s
  have lg := longF_len h.g
  obtain ⟨o1, o2⟩ := flows_ok (R.fl (by rw [hp]))
  obtain ⟨a, ha⟩ : ∃ a : Nat, m.aa = (a : Int) := ⟨m.aa.toNat, (Int.toNat_of_nonneg R.a0).symm⟩
  have ha1 := R.a1
  have ht : m.aa.toNat = a := by omega
  rw [ha] at c2
  have lb := be_len a 4
  have q1 : partsB m (ofF m.k).1 = ((((m.key ++ m.rd) ++ be a 4) ++ longF m.s) ++ longF m.g) := by
    rw [hp]; unfold partsB; rw [ht]; simp
  unfold mbytes at hk
  rw [q1, ← mb_head m.k ((((m.key ++ m.rd) ++ be a 4) ++ longF m.s) ++ longF m.g) (by omega) (by omega)] at hk
  have ql : (((((m.key ++ m.rd) ++ be a 4) ++ longF m.s) ++ longF m.g)).length ≤ 400 := by simp only [List.length_append]; omega
  have w9 := wrap8 (((((m.key ++ m.rd) ++ be a 4) ++ longF m.s) ++ longF m.g)).length
  unfold vb90_4
  refine W ?_
  refine ct ?_
  refine tPutR (l := m.key ++ m.rd) (q := a) (z := 4) (by decide) (by decide) (by omega) (by rw [List.length_append]; omega) (fun e => by have := congrArg List.length e; rw [List.length_append, lrd] at this; simp at this) (fun g5 o5 => ?_)
  refine Wo ?_
  refine drJ (fun h => vGet h (σ.length + 0) 1 = some (.box (mrc m) false)) [(2, 0), (1, 1), (1, 2), (1, 3), (2, 5), (2, 6), (0, 4), (1, 7), (0, 8), (2, 9)] (by kernel_rfl) (by kernel_rfl) (by exact z_ol) (lget rfl rfl) ?_
  refine Wo ?_
  refine s1 (uLong h.s o1) ?_
  refine Wo ?_
  refine sv_0 ?_
  refine est (by exact z_ea) ?_
  refine st_end ⟨lget rfl rfl, ?_⟩
  refine s1 (uLong h.g o2) ?_
  refine sv_0 ?_
  refine est (by exact z_ea) ?_
  refine st_end ⟨lget rfl rfl, ?_⟩
  refine W ?_
  exact hk
end
set_option maxHeartbeats 4000000 in
theorem uMBytes {m : Mr} (h : okM m) (hkl : m.key.length ≤ 140737488355328) (hr : rightF m = true) : U Tryz.prog 90 [.agg (mrc m)] (.tup [.sl (bsl (mbytes m)), .int .i64 0]) := by
  intro σ Post hk
  have R := rightM hr
  have kl := rightM_len R
  have sc := mrc_sc (m := m)
  have ln := mrc_len h
  have c0 := mrc_all h
  have c6 := mc_key h
  have c7 : cut (mrc m) 0 none = some (.int .i64 m.k) := rfl
  have oU := uOf (k := m.k)
  have ps := pt_set (ofF m.k).1
  have pc := pt_sc (ofF m.k).1
  have fin : ∀ env, belH σ.length σ → env 1 = .ptr (σ.length + 0) 1 0 → env 4 = .ptr (σ.length + 2) 1 0 → env 6 = .row (σ.length + 3) 1 → vrun Tryz.prog σ.length vb90_4 env (σ ++ [(1, VObj.box (mrc m) false), (1, .row 1 [] false), (1, .box (ptc (ofF m.k).1) false), (1, .row 1 (bsl m.key) false), (0, .dead), (0, .dead), (0, .dead), (0, .dead), (0, .dead), (0, .dead)]) (vend vf90 (TrimP σ.length Post)) := by
    intro env hB e1 e4 e6
    rcases kinds R.k with h3 | h3 | h3 | h3 | h3 | h3 | h3
    · rw [show (ofF m.k).1 = ⟨true, false, false, true⟩ by rw [h3]; rfl]; exact mb1 h R h3 hB e1 e4 e6 hk
    · rw [show (ofF m.k).1 = ⟨true, true, false, false⟩ by rw [h3]; rfl]; exact mb2 h R h3 hB e1 e4 e6 hk
    · rw [show (ofF m.k).1 = ⟨true, false, true, true⟩ by rw [h3]; rfl]; exact mb3 h R h3 hB e1 e4 e6 hk
    · rw [show (ofF m.k).1 = ⟨false, false, false, true⟩ by rw [h3]; rfl]; exact mb4 h R h3 hB e1 e4 e6 hk
    · rw [show (ofF m.k).1 = ⟨true, false, true, false⟩ by rw [h3]; rfl]; exact mb5 h R h3 hB e1 e4 e6 hk
    · rw [show (ofF m.k).1 = ⟨true, true, true, false⟩ by rw [h3]; rfl]; exact mb6 h R (.inl h3) hB e1 e4 e6 hk
    · rw [show (ofF m.k).1 = ⟨true, true, true, false⟩ by rw [h3]; rfl]; exact mb6 h R (.inr h3) hB e1 e4 e6 hk
  clear hk
  generalize (ofF m.k).1 = p at *
  refine T90 fun hB hA => ?_
  rw [vb90_eq]
  refine W ?_
  refine cu (uRightM h hkl) ?_
  rw [hr]
  refine W ?_
  refine cu oU ?_
  refine W ?_
  rw [bytesEs_eq]
  exact fin _ hB rfl rfl rfl
end Go.Proofs.YtjhmobdncjhcnaaGreatDoor
