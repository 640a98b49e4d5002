/- The law VrfApart as a triple. -/
import Derived.Test.YtjhmobdncjhcnaaGreatDoorR21b
namespace Go.Proofs.YtjhmobdncjhcnaaGreatDoor
open Go Go.V
set_option maxRecDepth 10000
set_option linter.unusedVariables false
attribute [local irreducible] vBuild vCallV
theorem vrR_num {v : Vr} (h : vrR v = true) : 1 ≤ v.num ∧ v.num < 65536 := by
  unfold vrR at h
  simp only [Bool.and_eq_true, decide_eq_true_eq] at h
  exact ⟨h.2.2.1, h.2.2.2.1⟩
theorem rightsF_num {l : List Vr} (h : rightsF l = true) (v : Vr) (hv : v ∈ l) : 1 ≤ v.num ∧ v.num < 65536 := by
  unfold rightsF at h
  exact vrR_num (rightsG_len _ _ v hv (Bool.and_eq_true _ _ ▸ h).1)
theorem rightsF_apart {l : List Vr} (h : rightsF l = true) {i k : Nat} {x y : Vr} (hk : k < i) (hx : l[i]? = some x) (hy : l[k]? = some y) : y.num ≠ x.num := by
  unfold rightsF at h
  have := rightsG_apart _ _ i k x y (Bool.and_eq_true _ _ ▸ h).1 hk hx hy
  unfold twF at this
  simp only [Bool.or_eq_false_iff, decide_eq_false_iff_not] at this
  exact this.2.1
theorem tgt_ne {pe : Ad} {n m : Int} (h0 : (tgtF pe 0).2 = 0) (n0 : 0 ≤ n) (n1 : n < 65536) (m0 : 0 ≤ m) (m1 : m < 65536) (h : n ≠ m) : decide ((tgtF pe n).1 = (tgtF pe m).1) = false :=
  decide_eq_false fun e => h (tgtF_inj ((tgtF_e pe n 0).trans h0) n0 n1 m0 m1 e)
set_option maxHeartbeats 16000000 in
theorem tVrfApart {l : List Vr} {pe : Ad} (ho : ∀ v, v ∈ l → okVrf v) (hp : okD pe) (sm : U Tryz.prog 18 [] (.bool true)) : U Tryz.prog 6 [.sl (l.map vrC), .agg (adc pe)] (.bool true) := by
  intro σ Post hk
  have b1 : (l.map vrC).length = l.length := List.length_map _
  have sc := adc_sc (a := pe)
  have ln := adc_len hp
  have c0 := adc_all hp
  have cs := adc_s (a := pe)
  refine T6 fun hB hA => ?_
  refine W ?_
  refine cu sm ?_
  by_cases h20 : 20 < l.length
  · refine W ?_
    exact hk
  refine W ?_
  refine cu (uRights ho (by omega)) ?_
  cases hr : rightsF l with
  | false =>
    refine W ?_
    exact hk
  | true =>
    have hnum := rightsF_num hr
    have lw : (u8c (tgtF pe 0).1).length = 8 := u8c_len8 (tgtF_len pe _)
    have sw := u8c_sc (tgtF pe 0).1
    have cw := cut_hd0 lw
    have dw : splice [D.o, D.o, D.o, D.o, D.o, D.o, D.o, D.o] 0 (u8c (tgtF pe 0).1) = u8c (tgtF pe 0).1 := spl_any8 lw
    refine W ?_
    refine cu (uVTarget hp (n := 0) (by omega) (by omega)) ?_
    have ee := fun n => tgtF_e pe n 0
    generalize hE : (tgtF pe 0).2 = E at *
    refine W ?_
    refine lp (fun j e s => ∃ (i g h : Nat) (o q : VObj), i + j = l.length ∧ e 8 = .int .i64 i ∧ s = σ ++ [(1, VObj.box (adc pe) false), (1, .box (u8c (tgtF pe 0).1) false), (g, o), (h, q)]) l.length ⟨0, 0, 0, .dead, .dead, by simp, rfl, rfl⟩ ?_
    rintro j u _ ⟨i, g, h, o, q, hi, e8, rfl⟩
    by_cases h5 : i < l.length
    · obtain ⟨v, hx⟩ : ∃ x, l[i]? = some x := ⟨_, List.getElem?_eq_getElem h5⟩
      have hg : (l.map vrC)[(i : Int).toNat]? = some (vrC v) := by rw [Int.toNat_natCast, List.getElem?_map, hx]; rfl
      have hm := List.mem_of_getElem? hx
      have hv := ho v hm
      have hn := hnum v hm
      have vl := vrC_len hv.ok
      have vg := vrC_gnum hv.ok
      have lv : (u8c (tgtF pe v.num).1).length = 8 := u8c_len8 (tgtF_len pe _)
      have sv := u8c_sc (tgtF pe v.num).1
      have cv := cut_hd0 lv
      have dv : splice [D.o, D.o, D.o, D.o, D.o, D.o, D.o, D.o] 0 (u8c (tgtF pe v.num).1) = u8c (tgtF pe v.num).1 := spl_any8 lv
      have q1 : E = 0 → eqCells [.i .u8, .i .u8, .i .u8, .i .u8, .i .u8, .i .u8, .i .u8, .i .u8] (u8c (tgtF pe v.num).1) (u8c (tgtF pe 0).1) = some false := fun h0 => by
        have q := eqC_u8 (tgtF pe v.num).1 (tgtF pe 0).1 (by rw [tgtF_len, tgtF_len])
        rw [tgtF_len, Bool.beq_eq_decide_eq, tgt_ne (hE.trans h0) (by omega) (by omega) (by omega) (by omega) (by omega)] at q; exact q
      by_cases h0 : E = 0
      · have q1 := q1 h0
        refine Wo ?_
        refine drJ (fun hh => vGet hh (σ.length + 0) 1 = some (.box (adc pe) false)) [(2, 0), (2, 1), (2, 2), (2, 3), (2, 4), (2, 5), (2, 6), (2, 7), (2, 8), (2, 9), (0, 10), (0, 11), (2, 12)] (by kernel_rfl) (by kernel_rfl) (by exact z_ol) (lget rfl rfl) ?_
        refine Wo ?_
        refine s2 (uVTarget hp (n := v.num) (by omega) (by omega)) ?_
        rw [ee]
        refine Wo ?_
        refine sv_0 ?_
        refine est (by exact z_ea) ?_
        refine st_end ⟨lget rfl rfl, ?_⟩
        refine Wo ?_
        refine sv_0 ?_
        refine est (by exact z_ea) ?_
        refine st_end ⟨lget rfl rfl, ?_⟩
        refine Wo ?_
        refine W ?_
        refine lp (fun j e s => ∃ (k h : Nat) (q : VObj), k + j = i ∧ e 11 = .int .i64 k ∧ s = σ ++ [(1, VObj.box (adc pe) false), (1, .box (u8c (tgtF pe 0).1) false), (g + 1, .box (u8c (tgtF pe v.num).1) false), (h, q)]) i ⟨0, h, q, by simp, rfl, rfl⟩ ?_
        rintro j2 u2 _ ⟨k, h, q, hk2, e11, rfl⟩
        by_cases h7 : k < i
        · obtain ⟨y, hy⟩ : ∃ x, l[k]? = some x := ⟨_, List.getElem?_eq_getElem (by omega)⟩
          have hgy : (l.map vrC)[(k : Int).toNat]? = some (vrC y) := by rw [Int.toNat_natCast, List.getElem?_map, hy]; rfl
          have hmy := List.mem_of_getElem? hy
          have hvy := ho y hmy
          have hny := hnum y hmy
          have yl := vrC_len hvy.ok
          have yg := vrC_gnum hvy.ok
          have ly : (u8c (tgtF pe y.num).1).length = 8 := u8c_len8 (tgtF_len pe _)
          have sy := u8c_sc (tgtF pe y.num).1
          have cy := cut_hd0 ly
          have dy : splice [D.o, D.o, D.o, D.o, D.o, D.o, D.o, D.o] 0 (u8c (tgtF pe y.num).1) = u8c (tgtF pe y.num).1 := spl_any8 ly
          have q2 : eqCells [.i .u8, .i .u8, .i .u8, .i .u8, .i .u8, .i .u8, .i .u8, .i .u8] (u8c (tgtF pe y.num).1) (u8c (tgtF pe v.num).1) = some false := by
            have hne := rightsF_apart hr h7 hx hy
            have q := eqC_u8 (tgtF pe y.num).1 (tgtF pe v.num).1 (by rw [tgtF_len, tgtF_len])
            rw [tgtF_len, Bool.beq_eq_decide_eq, tgt_ne (hE.trans h0) (by omega) (by omega) (by omega) (by omega) hne] at q; exact q
          refine Wo ?_
          refine drJ (fun hh => vGet hh (σ.length + 0) 1 = some (.box (adc pe) false)) [(2, 0), (2, 1), (2, 2), (2, 3), (2, 4), (2, 5), (2, 6), (2, 7), (2, 8), (2, 9), (0, 10), (0, 11), (2, 12)] (by kernel_rfl) (by kernel_rfl) (by exact z_ol) (lget rfl rfl) ?_
          refine Wo ?_
          refine s2 (uVTarget hp (n := y.num) (by omega) (by omega)) ?_
          rw [ee]
          refine Wo ?_
          refine sv_0 ?_
          refine est (by exact z_ea) ?_
          refine st_end ⟨lget rfl rfl, ?_⟩
          refine Wo ?_
          refine sv_0 ?_
          refine est (by exact z_ea) ?_
          refine st_end ⟨lget rfl rfl, ?_⟩
          refine Wo ?_
          refine W ?_
          exact ⟨j2 - 1, by omega, k + 1, _, _, by omega, rfl, rfl⟩
        · refine W ?_
          exact ⟨j - 1, by omega, i + 1, _, _, _, _, by omega, rfl, rfl⟩
      · clear q1
        refine Wo ?_
        refine drJ (fun hh => vGet hh (σ.length + 0) 1 = some (.box (adc pe) false)) [(2, 0), (2, 1), (2, 2), (2, 3), (2, 4), (2, 5), (2, 6), (2, 7), (2, 8), (2, 9), (0, 10), (0, 11), (2, 12)] (by kernel_rfl) (by kernel_rfl) (by exact z_ol) (lget rfl rfl) ?_
        refine Wo ?_
        refine s2 (uVTarget hp (n := v.num) (by omega) (by omega)) ?_
        rw [ee]
        refine Wo ?_
        refine sv_0 ?_
        refine est (by exact z_ea) ?_
        refine st_end ⟨lget rfl rfl, ?_⟩
        refine Wo ?_
        refine sv_0 ?_
        refine est (by exact z_ea) ?_
        refine st_end ⟨lget rfl rfl, ?_⟩
        refine Wo ?_
        refine W ?_
        refine lp (fun j e s => ∃ (k h : Nat) (q : VObj), k + j = i ∧ e 11 = .int .i64 k ∧ s = σ ++ [(1, VObj.box (adc pe) false), (1, .box (u8c (tgtF pe 0).1) false), (g + 1, .box (u8c (tgtF pe v.num).1) false), (h, q)]) i ⟨0, h, q, by simp, rfl, rfl⟩ ?_
        rintro j2 u2 _ ⟨k, h, q, hk2, e11, rfl⟩
        by_cases h7 : k < i
        · obtain ⟨y, hy⟩ : ∃ x, l[k]? = some x := ⟨_, List.getElem?_eq_getElem (by omega)⟩
          have hgy : (l.map vrC)[(k : Int).toNat]? = some (vrC y) := by rw [Int.toNat_natCast, List.getElem?_map, hy]; rfl
          have hmy := List.mem_of_getElem? hy
          have hvy := ho y hmy
          have hny := hnum y hmy
          have yl := vrC_len hvy.ok
          have yg := vrC_gnum hvy.ok
          have ly : (u8c (tgtF pe y.num).1).length = 8 := u8c_len8 (tgtF_len pe _)
          have sy := u8c_sc (tgtF pe y.num).1
          have cy := cut_hd0 ly
          have dy : splice [D.o, D.o, D.o, D.o, D.o, D.o, D.o, D.o] 0 (u8c (tgtF pe y.num).1) = u8c (tgtF pe y.num).1 := spl_any8 ly
          refine Wo ?_
          refine drJ (fun hh => vGet hh (σ.length + 0) 1 = some (.box (adc pe) false)) [(2, 0), (2, 1), (2, 2), (2, 3), (2, 4), (2, 5), (2, 6), (2, 7), (2, 8), (2, 9), (0, 10), (0, 11), (2, 12)] (by kernel_rfl) (by kernel_rfl) (by exact z_ol) (lget rfl rfl) ?_
          refine Wo ?_
          refine s2 (uVTarget hp (n := y.num) (by omega) (by omega)) ?_
          rw [ee]
          refine Wo ?_
          refine sv_0 ?_
          refine est (by exact z_ea) ?_
          refine st_end ⟨lget rfl rfl, ?_⟩
          refine Wo ?_
          refine sv_0 ?_
          refine est (by exact z_ea) ?_
          refine st_end ⟨lget rfl rfl, ?_⟩
          refine Wo ?_
          refine W ?_
          exact ⟨j2 - 1, by omega, k + 1, _, _, by omega, rfl, rfl⟩
        · refine W ?_
          exact ⟨j - 1, by omega, i + 1, _, _, _, _, by omega, rfl, rfl⟩
    · refine W ?_
      exact hk
end Go.Proofs.YtjhmobdncjhcnaaGreatDoor
