/- umh: Few of a site; candidates and Select of a site without routes. -/
import Derived.Test.YtjhmobdncjhcnaaGreatDoorR27
import Derived.Test.YtjhmobdncjhcnaaGreatDoorR24a
import Derived.Test.YtjhmobdncjhcnaaGreatDoorR14a
namespace Go.Proofs.YtjhmobdncjhcnaaGreatDoor
open Go Go.V
set_option maxRecDepth 10000
set_option linter.unusedVariables false
attribute [local irreducible] vBuild vCallV
def few19 (s : Si) : Bool := !((s.vrfs.take 30).any fun v => !few18 v) && (!((s.lrn.take 80).any fun r => !few15 r) && (decide (s.vrfs.length ≤ 20) && (decide (s.locs.length ≤ 40) && (decide (s.acts.length ≤ 40) && (decide (s.joins.length ≤ 80) && decide (s.lrn.length ≤ 60))))))
theorem any_take {α : Type} {p : α → Bool} {l : List α} {n i : Nat} (h : (l.take i).any p = true) (hi : i ≤ n) : (l.take n).any p = true := by
  rw [List.any_eq_true] at h ⊢
  obtain ⟨x, hx, hp⟩ := h
  refine ⟨x, ?_, hp⟩
  have : (l.take n).take i = l.take i := by rw [List.take_take, Nat.min_eq_left hi]
  rw [← this] at hx
  exact List.mem_of_mem_take hx
set_option maxHeartbeats 16000000 in
theorem uFew19 {s : Si} (hs : okSi s) (hv : ∀ v, v ∈ s.vrfs → okVr v) (hr : ∀ r, r ∈ s.lrn → okArg r) : U Tryz.prog 25 [.agg (siC s)] (.bool (few19 s)) := by
  intro σ Post hk
  have ss := siC_sc (x := s)
  have sl := siC_len hs
  have sa := siC_all hs
  have sg1 := siC_gpe hs
  have sg2 := siC_gasn hs
  have sg0 := siC_gvrfs hs
  have sg3 := siC_glocs hs
  have sg4 := siC_glrn hs
  have sg5 := siC_gacts hs
  have sg6 := siC_gjoins hs
  have b1 : (s.vrfs.map vrC).length = s.vrfs.length := List.length_map _
  have b2 : (s.lrn.map rtC).length = s.lrn.length := List.length_map _
  have b3 : (s.locs.map lcC).length = s.locs.length := List.length_map _
  refine T25 fun hB hA => ?_
  refine W ?_
  refine lp (fun j e h => ∃ i : Nat, i + j = 30 ∧ i ≤ s.vrfs.length ∧ e 3 = .int .i64 i ∧ ((s.vrfs.take i).any fun v => !few18 v) = false ∧ h = σ ++ [(1, VObj.box (siC s) false)]) 30 ⟨0, by simp, by simp, rfl, by simp, rfl⟩ ?_
  rintro j u _ ⟨i, hi, hil, e3, hal, rfl⟩
  have done : ((s.vrfs.take 30).any fun v => !few18 v) = false → ∀ E : Nat → PV, True := fun _ _ => trivial
  clear done
  by_cases h5 : i < s.vrfs.length ∧ i < 30
  · obtain ⟨h5, h30⟩ := h5
    obtain ⟨x, hx⟩ : ∃ x, s.vrfs[i]? = some x := ⟨_, List.getElem?_eq_getElem h5⟩
    have hg : (s.vrfs.map vrC)[(i : Int).toNat]? = some (vrC x) := by rw [Int.toNat_natCast, List.getElem?_map, hx]; rfl
    have hm := hv x (List.mem_of_getElem? hx)
    have xs := vrC_sc (x := x)
    have xl := vrC_len hm
    have xc := vrC_all hm
    refine W ?_
    refine cu (uFew18 hm) ?_
    cases hp : few18 x with
    | true =>
      refine W ?_
      exact ⟨j - 1, by omega, i + 1, by omega, by omega, rfl, by rw [take_snoc hx, List.any_append, hal]; simp [hp], rfl⟩
    | false =>
      have hf : few19 s = false := by
        have : ((s.vrfs.take 30).any fun v => !few18 v) = true := any_take (i := i + 1) (by rw [take_snoc hx, List.any_append]; simp [hp]) (by omega)
        unfold few19; rw [this]; rfl
      rw [hf] at hk
      refine W ?_
      exact hk
  · have hv30 : ((s.vrfs.take 30).any fun v => !few18 v) = false := by
      have : s.vrfs.take i = s.vrfs.take 30 := by
        by_cases hh : i < 30
        · rw [List.take_of_length_le (show s.vrfs.length ≤ i by omega), List.take_of_length_le (show s.vrfs.length ≤ 30 by omega)]
        · rw [show i = 30 by omega]
      rw [← this]; exact hal
    have ex : ∀ (P : Prop), ((s.vrfs.length ≤ i) → P) → ((i < s.vrfs.length) → 30 ≤ i → P) → P := fun P p q => by
      by_cases hh : i < s.vrfs.length
      · exact q hh (by omega)
      · exact p (by omega)
    clear hal h5
    refine ex _ (fun hq => ?_) (fun hq hq2 => ?_)
    all_goals
      refine W ?_
      refine lp (fun j e h => ∃ i : Nat, i + j = 80 ∧ i ≤ s.lrn.length ∧ e 5 = .int .i64 i ∧ ((s.lrn.take i).any fun r => !few15 r) = false ∧ h = σ ++ [(1, VObj.box (siC s) false)]) 80 ⟨0, by simp, by simp, rfl, by simp, rfl⟩ ?_
      clear hi hil e3 hq
      rintro j u _ ⟨i, hi, hil, e3, hal, rfl⟩
      by_cases h5 : i < s.lrn.length ∧ i < 80
      · obtain ⟨h5, h30⟩ := h5
        obtain ⟨x, hx⟩ : ∃ x, s.lrn[i]? = some x := ⟨_, List.getElem?_eq_getElem h5⟩
        have hg : (s.lrn.map rtC)[(i : Int).toNat]? = some (rtC x) := by rw [Int.toNat_natCast, List.getElem?_map, hx]; rfl
        have hm := hr x (List.mem_of_getElem? hx)
        have xs := rtC_sc (x := x)
        have xl := rtC_len hm.ok
        have xc := rtC_all hm.ok
        refine W ?_
        refine cu (uFew15 hm.ok hm.tn hm.l1 hm.l2 hm.l3) ?_
        cases hp : few15 x with
        | true =>
          refine W ?_
          exact ⟨j - 1, by omega, i + 1, by omega, by omega, rfl, by rw [take_snoc hx, List.any_append, hal]; simp [hp], rfl⟩
        | false =>
          have hf : few19 s = false := by
            have : ((s.lrn.take 80).any fun r => !few15 r) = true := any_take (i := i + 1) (by rw [take_snoc hx, List.any_append]; simp [hp]) (by omega)
            unfold few19; rw [this]; simp
          rw [hf] at hk
          refine W ?_
          exact hk
      · have hl80 : ((s.lrn.take 80).any fun r => !few15 r) = false := by
          have : s.lrn.take i = s.lrn.take 80 := by
            by_cases hh : i < 80
            · rw [List.take_of_length_le (show s.lrn.length ≤ i by omega), List.take_of_length_le (show s.lrn.length ≤ 80 by omega)]
            · rw [show i = 80 by omega]
          rw [← this]; exact hal
        have ex : ∀ (P : Prop), ((s.lrn.length ≤ i) → P) → ((i < s.lrn.length) → 80 ≤ i → P) → P := fun P p q => by
          by_cases hh : i < s.lrn.length
          · exact q hh (by omega)
          · exact p (by omega)
        clear hal h5
        refine ex _ (fun hq => ?_) (fun hq hq3 => ?_)
        all_goals
          by_cases l1 : s.vrfs.length ≤ 20
          · by_cases l2 : s.locs.length ≤ 40
            · by_cases l3 : s.acts.length ≤ 40
              · by_cases l4 : s.joins.length ≤ 80
                · by_cases l5 : s.lrn.length ≤ 60
                  · first | (exfalso; omega) | (refine W ?_; exact fin hk (by unfold few19; rw [hv30, hl80]; simp [l1, l2, l3, l4, l5]))
                  · first | (exfalso; omega) | (refine W ?_; exact fin hk (by unfold few19; rw [hv30, hl80]; simp [l1, l2, l3, l4, l5]))
                · first | (exfalso; omega) | (refine W ?_; exact fin hk (by unfold few19; rw [hv30, hl80]; simp [l1, l2, l3, l4]))
              · first | (exfalso; omega) | (refine W ?_; exact fin hk (by unfold few19; rw [hv30, hl80]; simp [l1, l2, l3]))
            · first | (exfalso; omega) | (refine W ?_; exact fin hk (by unfold few19; rw [hv30, hl80]; simp [l1, l2]))
          · first | (exfalso; omega) | (refine W ?_; exact fin hk (by unfold few19; rw [hv30, hl80]; simp [l1]))
set_option maxHeartbeats 16000000 in
theorem uTaken0 {v : Vr} {a : Ad} (hv : okVr v) (ha : okD a) : U Tryz.prog 119 [.agg (vrC v), .agg (adc a), .sl []] (.sl []) := by
  intro σ Post hk
  have vs := vrC_sc (x := v)
  have vl := vrC_len hv
  have vc := vrC_all hv
  have vg1 := vrC_gname hv
  have sc := adc_sc (a := a)
  have ln := adc_len ha
  have c0 := adc_all ha
  have cs := adc_s (a := a)
  refine T119 fun hB hA => ?_
  refine W ?_
  refine lp (fun j e h => e 12 = .int .i64 0 ∧ e 7 = .row (σ.length + 3) 1 ∧ h = σ ++ [(1, VObj.box (vrC v) false), (1, .box (adc a) false), (1, .row 132 [] false), (1, .row 132 [] false), (0, .dead), (0, .dead), (0, .dead)]) 0 ⟨rfl, rfl, rfl⟩ ?_
  rintro j u _ ⟨e12, e7, rfl⟩
  refine W ?_
  exact hk
theorem cd_fill {u : Us} {b : Int} {n : List UInt8} (hu : okUs u) : splice [PV.int .i64 0, D.o, D.o, D.o, D.o, D.o, D.o, D.o, D.o, D.o, D.o, D.o, D.o, D.o, D.o, D.o, D.o, D.o, D.o, D.o, D.o, D.o, D.o, D.o, D.o, .int .i64 0, D.o, D.o, D.o, D.o, D.o, D.o, D.o, D.o, .int .i64 0, .str []] 0 (usC u) = usC u ++ [PV.int .i64 0, .str []] ∧ splice (usC u ++ [PV.int .i64 0, .str []]) 34 [.int .i64 b] = usC u ++ [PV.int .i64 b, .str []] ∧ splice (usC u ++ [PV.int .i64 b, .str []]) 35 [.str n] = cdC ⟨u, b, n⟩ := by
  have ul := usC_len hu
  refine ⟨?_, spl_sk (o := 0) ul rfl rfl, spl_sk (o := 1) ul rfl rfl⟩
  show splice ([PV.int .i64 0, D.o, D.o, D.o, D.o, D.o, D.o, D.o, D.o, D.o, D.o, D.o, D.o, D.o, D.o, D.o, D.o, D.o, D.o, D.o, D.o, D.o, D.o, D.o, D.o, .int .i64 0, D.o, D.o, D.o, D.o, D.o, D.o, D.o, D.o] ++ [PV.int .i64 0, .str []]) 0 (usC u) = _
  exact spl_hd (by rw [ul]; rfl)
set_option maxHeartbeats 16000000 in
theorem uMin1 {c : Cd} (hc : okCd c) : U Tryz.prog 70 [.sl [cdC c], .fn 71 []] (.agg (cdC c)) := by
  intro σ Post hk
  have cs := cdC_sc (x := c)
  have cl := cdC_len hc
  have cc := cdC_all hc
  have d0 := cdC_any hc (cs := [PV.int .i64 0, D.o, D.o, D.o, D.o, D.o, D.o, D.o, D.o, D.o, D.o, D.o, D.o, D.o, D.o, D.o, D.o, D.o, D.o, D.o, D.o, D.o, D.o, D.o, D.o, .int .i64 0, D.o, D.o, D.o, D.o, D.o, D.o, D.o, D.o, .int .i64 0, .str []]) rfl
  have b1 : [cdC c].length = 1 := rfl
  have hg : [cdC c][(0 : Int).toNat]? = some (cdC c) := rfl
  refine T70 fun hB hA => ?_
  refine W ?_
  refine lp (fun j e h => e 6 = .int .i64 1 ∧ h = σ ++ [(1, VObj.box [PV.int .i64 0, D.o, D.o, D.o, D.o, D.o, D.o, D.o, D.o, D.o, D.o, D.o, D.o, D.o, D.o, D.o, D.o, D.o, D.o, D.o, D.o, D.o, D.o, D.o, D.o, .int .i64 0, D.o, D.o, D.o, D.o, D.o, D.o, D.o, D.o, .int .i64 0, .str []] false), (1, .box (cdC c) false)]) 0 ⟨rfl, rfl⟩ ?_
  rintro j u _ ⟨e6, rfl⟩
  refine W ?_
  exact hk
def candsF (v : Vr) (s : Si) (a : Ad) : List Cd := if (hereF v s a).2 = true ∧ (ownF v s).2 = 0 then [⟨(ownF v s).1, (hereF v s a).1.bits, []⟩] else []
theorem hereF_ok {v : Vr} {s : Si} {a : Ad} (hl : ∀ x, x ∈ s.locs → okLc x) : okPf (hereF v s a).1 := hereG_ok _ _ hl pf0_ok
set_option maxHeartbeats 16000000 in
theorem uCands0 {v : Vr} {s : Si} {a : Ad} (hv : okVr v) (hs : okSi s) (ha : okD a) (hl : ∀ x, x ∈ s.locs → okLc x) (hn : s.locs.length ≤ 1000000) (h0 : s.lrn = []) : U Tryz.prog 69 [.agg (vrC v), .agg (siC s), .agg (adc a)] (.sl ((candsF v s a).map cdC)) := by
  intro σ Post hk
  have vs := vrC_sc (x := v)
  have vl := vrC_len hv
  have vc := vrC_all hv
  have vg1 := vrC_gname hv
  have ss := siC_sc (x := s)
  have sl := siC_len hs
  have sa := siC_all hs
  have sg1 := siC_gpe hs
  have sg2 := siC_gasn hs
  have sg0 := siC_gvrfs hs
  have sg3 := siC_glocs hs
  have sg4 := siC_glrn hs
  have sg5 := siC_gacts hs
  have sg6 := siC_gjoins hs
  have sc := adc_sc (a := a)
  have ln := adc_len ha
  have c0 := adc_all ha
  have cs := adc_s (a := a)
  have ho := ownF_ok hv hs
  have hh := hereF_ok (v := v) (a := a) hl
  have ol := usC_len ho
  have oc := usC_all ho
  have osc := usC_sc (x := (ownF v s).1)
  have od := usC_any ho (cs := [PV.int .i64 0, D.o, D.o, D.o, D.o, D.o, D.o, D.o, D.o, D.o, D.o, D.o, D.o, D.o, D.o, D.o, D.o, D.o, D.o, D.o, D.o, D.o, D.o, D.o, D.o, .int .i64 0, D.o, D.o, D.o, D.o, D.o, D.o, D.o, D.o]) rfl
  have hll := pfC_len hh
  have hlc := pfC_all hh
  have hls := pfC_sc (x := (hereF v s a).1)
  have hlb := pfC_gbits hh
  have hld := pfC_any hh (cs := [PV.int .i64 0, D.o, D.o, D.o, D.o, D.o, D.o, D.o, D.o, D.o, D.o, D.o, D.o, D.o, D.o, D.o, D.o, .int .i64 0]) rfl
  have sg4' : cut (siC s) 22 none = some (.sl []) := by rw [sg4, h0]; rfl
  clear sg4
  refine T69 fun hB hA => ?_
  refine W ?_
  refine cu (uOwn hv hs) ?_
  refine W ?_
  refine cu (uHere hv hs ha hl hn) ?_
  have hf : candsF v s a = if (hereF v s a).2 = true ∧ (ownF v s).2 = 0 then [⟨(ownF v s).1, (hereF v s a).1.bits, []⟩] else [] := rfl
  generalize hereF v s a = B at *
  generalize ownF v s = O at *
  obtain ⟨bp, bi⟩ := B
  obtain ⟨ou, oe⟩ := O
  dsimp only at *
  by_cases h1 : bi = true
  · subst h1
    by_cases h2 : oe = 0
    · rw [if_pos ⟨rfl, h2⟩] at hf
      obtain ⟨f1, f2, f3⟩ := cd_fill (u := ou) (b := bp.bits) (n := []) ho
      have hc : okCd ⟨ou, bp.bits, []⟩ := ⟨ho⟩
      have cs := cdC_sc (x := ⟨ou, bp.bits, []⟩)
      have cl := cdC_len hc
      have cc := cdC_all hc
      rw [hf] at hk
      have ip : PlL (cdC ⟨ou, bp.bits, []⟩) := inferInstance
      have ic : ClL (cdC ⟨ou, bp.bits, []⟩) := inferInstance
      generalize hC : cdC ⟨ou, bp.bits, []⟩ = C at *
      have e9 : [(⟨ou, bp.bits, []⟩ : Cd)].map cdC = [C] := by rw [← hC]; rfl
      rw [e9] at hk
      have rk : RowOk 36 [C] := fun e he => by rw [List.mem_singleton.1 he]; exact ⟨cl, cs⟩
      refine W ?_
      refine cu (uTaken0 hv hs.pe) ?_
      refine W ?_
      refine lp (fun j e h => e 50 = .int .i64 0 ∧ e 7 = .row (σ.length + 4) 2 ∧ h = σ ++ [(1, VObj.box (vrC v) false), (1, .box (siC s) false), (1, .box (adc a) false), (1, .row 36 [] false), (2, .row 36 [C] false), (1, .box (usC ou) false), (1, .box (pfC bp) false), (1, .row 36 [C] false), (0, .dead), (0, .dead), (0, .dead), (0, .dead), (0, .dead)]) 0 ⟨rfl, rfl, rfl⟩ ?_
      rintro j u _ ⟨e50, e7, rfl⟩
      refine W ?_
      exact hk
    · rw [if_neg (by simp [h2])] at hf
      rw [hf] at hk
      refine W ?_
      refine cu (uTaken0 hv hs.pe) ?_
      refine W ?_
      refine lp (fun j e h => e 50 = .int .i64 0 ∧ e 7 = .row (σ.length + 4) 1 ∧ h = σ ++ [(1, VObj.box (vrC v) false), (1, .box (siC s) false), (1, .box (adc a) false), (1, .row 36 [] false), (1, .row 36 [] false), (1, .box (usC ou) false), (1, .box (pfC bp) false), (0, .dead), (0, .dead), (0, .dead), (0, .dead), (0, .dead), (0, .dead)]) 0 ⟨rfl, rfl, rfl⟩ ?_
      rintro j u _ ⟨e50, e7, rfl⟩
      refine W ?_
      exact hk
  · have h1 : bi = false := by simpa using h1
    subst h1
    rw [if_neg (by simp)] at hf
    rw [hf] at hk
    refine W ?_
    refine cu (uTaken0 hv hs.pe) ?_
    refine W ?_
    refine lp (fun j e h => e 50 = .int .i64 0 ∧ e 7 = .row (σ.length + 4) 1 ∧ h = σ ++ [(1, VObj.box (vrC v) false), (1, .box (siC s) false), (1, .box (adc a) false), (1, .row 36 [] false), (1, .row 36 [] false), (1, .box (usC ou) false), (1, .box (pfC bp) false), (0, .dead), (0, .dead), (0, .dead), (0, .dead), (0, .dead), (0, .dead)]) 0 ⟨rfl, rfl, rfl⟩ ?_
    rintro j u _ ⟨e50, e7, rfl⟩
    refine W ?_
    exact hk
def selF (v : Vr) (s : Si) (a : Ad) : Us × Bool := if (hereF v s a).2 = true ∧ (ownF v s).2 = 0 then ((ownF v s).1, true) else (us0, false)
theorem selF_ok {v : Vr} {s : Si} {a : Ad} (hv : okVr v) (hs : okSi s) : okUs (selF v s a).1 := by
  unfold selF; split
  · exact ownF_ok hv hs
  · exact us0_ok
set_option maxHeartbeats 16000000 in
theorem uSelect0 {v : Vr} {s : Si} {a : Ad} (hv : okVr v) (hs : okSi s) (ha : okD a) (hl : ∀ x, x ∈ s.locs → okLc x) (hn : s.locs.length ≤ 1000000) (h0 : s.lrn = []) : U Tryz.prog 26 [.agg (vrC v), .agg (siC s), .agg (adc a)] (.tup [.agg (usC (selF v s a).1), .bool (selF v s a).2]) := by
  intro σ Post hk
  have vs := vrC_sc (x := v)
  have vl := vrC_len hv
  have vc := vrC_all hv
  have vg1 := vrC_gname hv
  have ss := siC_sc (x := s)
  have sl := siC_len hs
  have sa := siC_all hs
  have sg1 := siC_gpe hs
  have sg2 := siC_gasn hs
  have sg0 := siC_gvrfs hs
  have sg3 := siC_glocs hs
  have sg4 := siC_glrn hs
  have sg5 := siC_gacts hs
  have sg6 := siC_gjoins hs
  have sc := adc_sc (a := a)
  have ln := adc_len ha
  have c0 := adc_all ha
  have cs := adc_s (a := a)
  have hh := hereF_ok (v := v) (a := a) hl
  have z34 : splice [PV.int .i64 0, D.o, D.o, D.o, D.o, D.o, D.o, D.o, D.o, D.o, D.o, D.o, D.o, D.o, D.o, D.o, D.o, D.o, D.o, D.o, D.o, D.o, D.o, D.o, D.o, .int .i64 0, D.o, D.o, D.o, D.o, D.o, D.o, D.o, D.o] 0 [PV.int .i64 0, D.o, D.o, D.o, D.o, D.o, D.o, D.o, D.o, D.o, D.o, D.o, D.o, D.o, D.o, D.o, D.o, D.o, D.o, D.o, D.o, D.o, D.o, D.o, D.o, .int .i64 0, D.o, D.o, D.o, D.o, D.o, D.o, D.o, D.o] = usC us0 := rfl
  have zl := usC_len us0_ok
  have zc := usC_all us0_ok
  have zs := usC_sc (x := us0)
  have ho := ownF_ok hv hs
  have ol := usC_len ho
  have oc := usC_all ho
  have osc := usC_sc (x := (ownF v s).1)
  have od := usC_any ho (cs := [PV.int .i64 0, D.o, D.o, D.o, D.o, D.o, D.o, D.o, D.o, D.o, D.o, D.o, D.o, D.o, D.o, D.o, D.o, D.o, D.o, D.o, D.o, D.o, D.o, D.o, D.o, .int .i64 0, D.o, D.o, D.o, D.o, D.o, D.o, D.o, D.o]) rfl
  have uC := uCands0 hv hs ha hl hn h0
  unfold selF at hk
  unfold candsF at uC
  refine T26 fun hB hA => ?_
  by_cases hc : (hereF v s a).2 = true ∧ (ownF v s).2 = 0
  · rw [if_pos hc] at hk uC
    have okc : okCd ⟨(ownF v s).1, (hereF v s a).1.bits, []⟩ := ⟨ho⟩
    have cl := cdC_len okc
    have cc := cdC_all okc
    have csc := cdC_sc (x := ⟨(ownF v s).1, (hereF v s a).1.bits, []⟩)
    have cd := cdC_any okc (cs := [PV.int .i64 0, D.o, D.o, D.o, D.o, D.o, D.o, D.o, D.o, D.o, D.o, D.o, D.o, D.o, D.o, D.o, D.o, D.o, D.o, D.o, D.o, D.o, D.o, D.o, D.o, .int .i64 0, D.o, D.o, D.o, D.o, D.o, D.o, D.o, D.o, .int .i64 0, .str []]) rfl
    have cg : cut (cdC ⟨(ownF v s).1, (hereF v s a).1.bits, []⟩) 0 (some 34) = some (.agg (usC (ownF v s).1)) := cut_hd ol
    have b1 : ([(⟨(ownF v s).1, (hereF v s a).1.bits, []⟩ : Cd)].map cdC).length = 1 := rfl
    refine W ?_
    refine cu uC ?_
    refine W ?_
    refine cu (uMin1 okc) ?_
    refine W ?_
    exact hk
  · rw [if_neg hc] at hk uC
    have b1 : (([] : List Cd).map cdC).length = 0 := rfl
    refine W ?_
    refine cu uC ?_
    refine W ?_
    exact hk
end Go.Proofs.YtjhmobdncjhcnaaGreatDoor
