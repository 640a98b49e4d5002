/- Multicast routes: cells, parts, addresses. -/
import Derived.Test.YtjhmobdncjhcnaaGreatDoorGD
import Derived.Test.YtjhmobdncjhcnaaGreatDoorF3
namespace Go.Proofs.YtjhmobdncjhcnaaGreatDoor
open Go Go.V
set_option maxRecDepth 10000
/-! Pieces of rows of cells. -/
theorem cut_mid {A X B : List PV} {o n : Nat} (ho : A.length = o) (hn : X.length = n) : cut (A ++ (X ++ B)) o (some n) = some (.agg X) := by
  subst ho hn
  simp only [cut]
  rw [if_pos (by simp), List.drop_left, List.take_left]
theorem cut_one {A B : List PV} {x : PV} {o : Nat} (ho : A.length = o) : cut (A ++ (x :: B)) o none = some x := by
  subst ho
  simp only [cut]
  rw [List.getElem?_append_right (Nat.le_refl _), Nat.sub_self]; rfl
theorem spl_mid {A X Y B : List PV} {o : Nat} (ho : A.length = o) (hn : Y.length = X.length) : splice (A ++ (X ++ B)) o Y = A ++ (Y ++ B) := by
  subst ho
  unfold splice
  rw [List.take_left, hn, ← List.drop_drop, List.drop_left, List.drop_left, List.append_assoc]
/-! Addresses. -/
structure Ad where
  s : Int
  b : List UInt8
  deriving DecidableEq
def adc (a : Ad) : List PV := adr a.s a.b
def ad0 : Ad := ⟨0, z16⟩
def okD (a : Ad) : Prop := a.b.length = 16
theorem ad0_ok : okD ad0 := rfl
instance (a : Ad) : PlL (adc a) := by unfold adc; infer_instance
instance (a : Ad) : ClL (adc a) := by unfold adc; infer_instance
section
variable {a g : Ad}
theorem adc_sc : (adc a).all scalar = true := adr_sc _ _
theorem adc_len (h : okD a) : (adc a).length = 17 := by unfold adc; rw [adr_len, h]
theorem adc_all (h : okD a) : cut (adc a) 0 (some 17) = some (.agg (adc a)) := by
  have := adc_len h
  simp only [cut]; rw [if_pos (by omega), List.drop_zero, List.take_of_length_le (by omega)]
theorem adc_s : cut (adc a) 0 none = some (.int .i64 a.s) := rfl
theorem adc_b0 (_h : okD a) {x : UInt8} (hx : a.b[0]? = some x) : cut (adc a) 1 none = some (byt x) := cut_adr (i := 0) hx
def okAd (a : Ad) : Bool := okA a.s a.b
theorem okAd_s (h : okAd a = true) : a.s = 0 ∨ a.s = 4 ∨ a.s = 16 := by
  unfold okAd okA at h; simp at h; omega
theorem uRightD (h : okD a) : U Tryz.prog 54 [.agg (adc a)] (.bool (okAd a)) := uRightA h
def mcA (a : Ad) : Bool := okAd a && (if a.s = 4 then decide ((a.b.headD 0).toNat / 16 = 14) else decide (a.s = 16) && decide ((a.b.headD 0).toNat = 255))
theorem uMulti (h : okD a) : U Tryz.prog 65 [.agg (adc a)] (.bool (mcA a)) := by
  intro σ Post hk
  have sc := adc_sc (a := a)
  have ln := adc_len h
  have c0 := adc_all h
  have c1 := adc_s (a := a)
  obtain ⟨x, hx⟩ : ∃ x, a.b[0]? = some x := ⟨_, List.getElem?_eq_getElem (by rw [h]; omega)⟩
  have c2 := adc_b0 h hx
  have hd : a.b.headD 0 = x := by
    cases hb : a.b with
    | nil => rw [hb] at hx; simp at hx
    | cons y r => rw [hb] at hx; simp at hx; simp [hx]
  have hx2 := x.toNat_lt
  have b1 : ibin .shr .u8 (x.toNat : Int) .u64 4 = some (.int .u8 ((x.toNat / 16 : Nat) : Int)) := ib_shrN (n := 4) (by decide)
  unfold mcA at hk
  rw [hd] at hk
  refine T65 fun hB hA => ?_
  cases ho : okAd a with
  | false =>
    rw [ho, Bool.false_and] at hk
    refine W ?_
    refine cu (uRightD h) ?_
    rw [ho]
    refine W ?_
    exact hk
  | true =>
    rw [ho, Bool.true_and] at hk
    by_cases h4 : a.s = 4
    · rw [if_pos h4] at hk
      by_cases h14 : x.toNat / 16 = 14
      · rw [decide_eq_true h14] at hk
        refine W ?_
        refine cu (uRightD h) ?_
        rw [ho]
        refine W ?_
        exact hk
      · rw [decide_eq_false h14] at hk
        refine W ?_
        refine cu (uRightD h) ?_
        rw [ho]
        refine W ?_
        exact hk
    · rw [if_neg h4] at hk
      by_cases h16 : a.s = 16
      · rw [decide_eq_true h16, Bool.true_and] at hk
        by_cases hff : x.toNat = 255
        · rw [decide_eq_true hff] at hk
          refine W ?_
          refine cu (uRightD h) ?_
          rw [ho]
          refine W ?_
          exact hk
        · rw [decide_eq_false hff] at hk
          refine W ?_
          refine cu (uRightD h) ?_
          rw [ho]
          refine W ?_
          exact hk
      · rw [decide_eq_false h16, Bool.false_and] at hk
        refine W ?_
        refine cu (uRightD h) ?_
        rw [ho]
        refine W ?_
        exact hk
def someA (a : Ad) : Bool := okAd a && decide (0 < a.s)
theorem uSome (h : okD a) : U Tryz.prog 185 [.agg (adc a)] (.bool (someA a)) := by
  intro σ Post hk
  have sc := adc_sc (a := a)
  have ln := adc_len h
  have c0 := adc_all h
  have c1 := adc_s (a := a)
  unfold someA at hk
  refine T185 fun hB hA => ?_
  refine W ?_
  refine cu (uRightD h) ?_
  cases ho : okAd a with
  | false =>
    rw [ho, Bool.false_and] at hk
    refine W ?_
    exact hk
  | true =>
    rw [ho, Bool.true_and] at hk
    by_cases h0 : 0 < a.s
    · rw [decide_eq_true h0] at hk
      refine W ?_
      exact hk
    · rw [decide_eq_false h0] at hk
      refine W ?_
      exact hk
def flowsF (s g : Ad) (w : Bool) : Bool := okAd s && okAd g && !mcA s && (decide (g.s ≤ 0) || mcA g) && (if w && (decide (s.s = 0) || decide (g.s = 0)) then true else decide (0 < s.s) && decide (s.s = g.s))
set_option maxHeartbeats 4000000 in
theorem uFlows {s g : Ad} {w : Bool} (hs : okD s) (hg : okD g) : U Tryz.prog 186 [.agg (adc s), .agg (adc g), .bool w] (.bool (flowsF s g w)) := by
  intro σ Post hk
  have sc := adc_sc (a := s)
  have ln := adc_len hs
  have c0 := adc_all hs
  have c1 := adc_s (a := s)
  have sc' := adc_sc (a := g)
  have ln' := adc_len hg
  have c0' := adc_all hg
  have c1' := adc_s (a := g)
  unfold flowsF at hk
  refine T186 fun hB hA => ?_
  refine W ?_
  refine cu (uRightD hs) ?_
  cases o1 : okAd s with
  | false =>
    simp only [o1, Bool.false_and] at hk
    refine W ?_
    exact hk
  | true =>
    refine W ?_
    refine cu (uRightD hg) ?_
    cases o2 : okAd g with
    | false =>
      simp only [o1, o2, Bool.false_and, Bool.and_false] at hk
      refine W ?_
      exact hk
    | true =>
      refine W ?_
      refine cu (uMulti hs) ?_
      cases o3 : mcA s with
      | true =>
        simp only [o1, o2, o3, Bool.not_true, Bool.false_and, Bool.and_false] at hk
        refine W ?_
        exact hk
      | false =>
        simp only [o1, o2, o3, Bool.not_false, Bool.true_and, Bool.and_true] at hk
        have e1 := okAd_s o1
        have e2 := okAd_s o2
        by_cases g0 : g.s ≤ 0
        · have g0' : g.s = 0 := by omega
          rw [decide_eq_true g0, Bool.true_or, Bool.true_and, decide_eq_true g0', Bool.or_true] at hk
          cases w with
          | true =>
            rw [Bool.and_true, if_pos rfl] at hk
            by_cases s0 : s.s = 0
            · refine W ?_
              exact hk
            · refine W ?_
              exact hk
          | false =>
            rw [Bool.false_and, if_neg (by simp)] at hk
            by_cases s0 : 0 < s.s
            · rw [decide_eq_true s0, decide_eq_false (show ¬ s.s = g.s by omega)] at hk
              refine W ?_
              exact hk
            · rw [decide_eq_false s0] at hk
              refine W ?_
              exact hk
        · have g0' : ¬ g.s = 0 := by omega
          rw [decide_eq_false g0, Bool.false_or, decide_eq_false g0', Bool.or_false] at hk
          refine W ?_
          refine cu (uMulti hg) ?_
          cases o4 : mcA g with
          | false =>
            rw [o4, Bool.false_and] at hk
            refine W ?_
            exact hk
          | true =>
            rw [o4, Bool.true_and] at hk
            by_cases s0 : s.s = 0
            · rw [decide_eq_true s0, Bool.and_true, decide_eq_false (show ¬ 0 < s.s by omega), Bool.false_and] at hk
              cases w with
              | true =>
                rw [if_pos rfl] at hk
                refine W ?_
                exact hk
              | false =>
                rw [if_neg (by simp)] at hk
                refine W ?_
                exact hk
            · rw [decide_eq_false s0, Bool.and_false, if_neg (by simp), decide_eq_true (show 0 < s.s by omega), Bool.true_and] at hk
              by_cases e : s.s = g.s
              · rw [decide_eq_true e] at hk
                cases w with
                | true =>
                  refine W ?_
                  exact hk
                | false =>
                  refine W ?_
                  exact hk
              · rw [decide_eq_false e] at hk
                cases w with
                | true =>
                  refine W ?_
                  exact hk
                | false =>
                  refine W ?_
                  exact hk
def abytes (a : Ad) : List UInt8 := if okAd a then a.b.take a.s.toNat else []
theorem uABytes (h : okD a) : U Tryz.prog 57 [.agg (adc a)] (.sl (bsl (abytes a))) := by
  intro σ Post hk
  have sc := adc_sc (a := a)
  have ln := adc_len h
  have c0 := adc_all h
  have c1 := adc_s (a := a)
  unfold abytes at hk
  refine T57 fun hB hA => ?_
  refine W ?_
  refine cu (uRightD h) ?_
  cases ho : okAd a with
  | false =>
    rw [ho] at hk
    refine W ?_
    exact hk
  | true =>
    rw [ho, if_pos rfl] at hk
    have hs := okAd_s ho
    have v : VCut (adc a) (0 + 1) a.s.toNat (bsl (a.b.take a.s.toNat)) := ⟨by
      unfold adc adr; rw [List.drop_succ_cons, List.drop_zero]; simp [u8c, bsl, List.map_take, Function.comp_def]⟩
    refine W ?_
    refine cu (uClone (l := a.b.take a.s.toNat) (by rw [List.length_take, h]; omega)) ?_
    refine W ?_
    exact hk
theorem abytes_len (h : okD a) : (abytes a).length ≤ 16 := by
  unfold abytes; split
  · rw [List.length_take, h]; omega
  · simp
def longF (a : Ad) : List UInt8 := UInt8.ofNat (8 * a.s).toNat :: abytes a
theorem uLong (h : okD a) (ho : okAd a = true) : U Tryz.prog 145 [.agg (adc a)] (.sl (bsl (longF a))) := by
  intro σ Post hk
  have sc := adc_sc (a := a)
  have ln := adc_len h
  have c0 := adc_all h
  have c1 := adc_s (a := a)
  have hs := okAd_s ho
  have hal := abytes_len h
  have k1 : IntKind.i64.wrap (8 * a.s) = 8 * a.s := w_i64 (by omega) (by omega)
  have w8 : IntKind.u8.wrap (8 * a.s) = 8 * a.s := w_u8 (by omega) (by omega)
  have e : ([PV.int IntKind.u8 (8 * a.s)] :: bsl (abytes a)) = bsl (longF a) := by
    unfold longF
    show _ = [byt (UInt8.ofNat (8 * a.s).toNat)] :: bsl (abytes a)
    congr 2
    have : (UInt8.ofNat (8 * a.s).toNat).toNat = (8 * a.s).toNat := by simp; omega
    show PV.int _ _ = PV.int _ _
    congr 1
    omega
  rw [← e] at hk
  refine T145 fun hB hA => ?_
  refine Wo ?_
  refine drJ (fun h' => vGet h' (σ.length + 0) 1 = some (.box (adc a) false)) [(1, 0), (1, 1), (2, 2), (2, 3), (2, 5), (2, 6), (0, 4), (0, 7), (2, 8)] (by kernel_rfl) (by kernel_rfl) (by exact z_ol) (lget rfl rfl) ?_
  refine Wo ?_
  refine sv_2 (fun hh hJ => yn (y_call (uABytes h) (by exact z_ma))) ?_
  refine Wo ?_
  refine sv_0 ?_
  refine est (by exact z_ea) ?_
  refine st_end ⟨lget rfl rfl, ?_⟩
  refine sv_0 ?_
  refine est (by exact z_ea) ?_
  refine st_end ⟨lget rfl rfl, ?_⟩
  refine W ?_
  exact hk
end
end Go.Proofs.YtjhmobdncjhcnaaGreatDoor
