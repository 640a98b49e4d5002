/- umh: Few of a site; candidates and Select of a site without routes. -/
import Derived.Test.YtjhmobdncjhcnaaGreatDoorR27
import Derived.Test.YtjhmobdncjhcnaaGreatDoorHU
import Derived.Test.YtjhmobdncjhcnaaGreatDoorR14a
import Derived.Test.YtjhmobdncjhcnaaGreatDoorHJ
namespace Go.Proofs.YtjhmobdncjhcnaaGreatDoor
open Go Go.V
set_option maxRecDepth 10000
set_option linter.unusedVariables false
attribute [local irreducible] vBuild vCallV
def few19 (s : Si) : Bool := !((s.vrfs.take 30).any fun v => !few18 v) && (!((s.lrn.take 80).any fun r => !few15 r) && (decide (s.vrfs.length ≤ 20) && (decide (s.locs.length ≤ 40) && (decide (s.acts.length ≤ 40) && (decide (s.joins.length ≤ 80) && decide (s.lrn.length ≤ 60))))))
theorem any_take {α : Type} {p : α → Bool} {l : List α} {n i : Nat} (h : (l.take i).any p = true) (hi : i ≤ n) : (l.take n).any p = true := by
  rw [List.any_eq_true] at h ⊢
  obtain ⟨x, hx, hp⟩ := h
  refine ⟨x, ?_, hp⟩
  have : (l.take n).take i = l.take i := by rw [List.take_take, Nat.min_eq_left hi]
  rw [← this] at hx
  exact List.mem_of_mem_take hx
set_option maxHeartbeats 16000000 in
theorem uFew19 {s : Si} (hs : okSi s) (hv : ∀ v, v ∈ s.vrfs → okVr v) (hr : ∀ r, r ∈ s.lrn → okArg r) : U Tryz.prog 25 [.agg (siC s)] (.bool (few19 s)) := by
  intro σ Post hk
  have ss := siC_sc (x := s)
  have sl := siC_len hs
  have sa := siC_all hs
  have sg1 := siC_gpe hs
  have sg2 := siC_gasn hs
  have sg0 := siC_gvrfs hs
  have sg3 := siC_glocs hs
  have sg4 := siC_glrn hs
  have sg5 := siC_gacts hs
  have sg6 := siC_gjoins hs
  have b1 : (s.vrfs.map vrC).length = s.vrfs.length := List.length_map _
  have b2 : (s.lrn.map rtC).length = s.lrn.length := List.length_map _
  have b3 : (s.locs.map lcC).length = s.locs.length := List.length_map _
  refine T25 fun hB hA => ?_
  refine W ?_
  refine lp (fun j e h => ∃ i : Nat, i + j = 30 ∧ i ≤ s.vrfs.length ∧ e 3 = .int .i64 i ∧ ((s.vrfs.take i).any fun v => !few18 v) = false ∧ h = σ ++ [(1, VObj.box (siC s) false)]) 30 ⟨0, by simp, by simp, rfl, by simp, rfl⟩ ?_
  rintro j u _ ⟨i, hi, hil, e3, hal, rfl⟩
  have done : ((s.vrfs.take 30).any fun v => !few18 v) = false → ∀ E : Nat → PV, True := fun _ _ => trivial
  clear done
  by_cases h5 : i < s.vrfs.length ∧ i < 30
  · obtain ⟨h5, h30⟩ := h5
    obtain ⟨x, hx⟩ : ∃ x, s.vrfs[i]? = some x := ⟨_, List.getElem?_eq_getElem h5⟩
    have hg : (s.vrfs.map vrC)[(i : Int).toNat]? = some (vrC x) := by rw [Int.toNat_natCast, List.getElem?_map, hx]; rfl
    have hm := hv x (List.mem_of_getElem? hx)
    have xs := vrC_sc (x := x)
    have xl := vrC_len hm
    have xc := vrC_all hm
    refine W ?_
    refine cu (uFew18 hm) ?_
    cases hp : few18 x with
    | true =>
      refine W ?_
      exact ⟨j - 1, by omega, i + 1, by omega, by omega, rfl, by rw [take_snoc hx, List.any_append, hal]; simp [hp], rfl⟩
    | false =>
      have hf : few19 s = false := by
        have : ((s.vrfs.take 30).any fun v => !few18 v) = true := any_take (i := i + 1) (by rw [take_snoc hx, List.any_append]; simp [hp]) (by omega)
        unfold few19; rw [this]; rfl
      rw [hf] at hk
      refine W ?_
      exact hk
  · have hv30 : ((s.vrfs.take 30).any fun v => !few18 v) = false := by
      have : s.vrfs.take i = s.vrfs.take 30 := by
        by_cases hh : i < 30
        · rw [List.take_of_length_le (show s.vrfs.length ≤ i by omega), List.take_of_length_le (show s.vrfs.length ≤ 30 by omega)]
        · rw [show i = 30 by omega]
      rw [← this]; exact hal
    have ex : ∀ (P : Prop), ((s.vrfs.length ≤ i) → P) → ((i < s.vrfs.length) → 30 ≤ i → P) → P := fun P p q => by
      by_cases hh : i < s.vrfs.length
      · exact q hh (by omega)
      · exact p (by omega)
    clear hal h5
    refine ex _ (fun hq => ?_) (fun hq hq2 => ?_)
    all_goals
      refine W ?_
      refine lp (fun j e h => ∃ i : Nat, i + j = 80 ∧ i ≤ s.lrn.length ∧ e 5 = .int .i64 i ∧ ((s.lrn.take i).any fun r => !few15 r) = false ∧ h = σ ++ [(1, VObj.box (siC s) false)]) 80 ⟨0, by simp, by simp, rfl, by simp, rfl⟩ ?_
      clear hi hil e3 hq
      rintro j u _ ⟨i, hi, hil, e3, hal, rfl⟩
      by_cases h5 : i < s.lrn.length ∧ i < 80
      · obtain ⟨h5, h30⟩ := h5
        obtain ⟨x, hx⟩ : ∃ x, s.lrn[i]? = some x := ⟨_, List.getElem?_eq_getElem h5⟩
        have hg : (s.lrn.map rtC)[(i : Int).toNat]? = some (rtC x) := by rw [Int.toNat_natCast, List.getElem?_map, hx]; rfl
        have hm := hr x (List.mem_of_getElem? hx)
        have xs := rtC_sc (x := x)
        have xl := rtC_len hm.ok
        have xc := rtC_all hm.ok
        refine W ?_
        refine cu (uFew15 hm.ok hm.tn hm.l1 hm.l2 hm.l3) ?_
        cases hp : few15 x with
        | true =>
          refine W ?_
          exact ⟨j - 1, by omega, i + 1, by omega, by omega, rfl, by rw [take_snoc hx, List.any_append, hal]; simp [hp], rfl⟩
        | false =>
          have hf : few19 s = false := by
            have : ((s.lrn.take 80).any fun r => !few15 r) = true := any_take (i := i + 1) (by rw [take_snoc hx, List.any_append]; simp [hp]) (by omega)
            unfold few19; rw [this]; simp
          rw [hf] at hk
          refine W ?_
          exact hk
      · have hl80 : ((s.lrn.take 80).any fun r => !few15 r) = false := by
          have : s.lrn.take i = s.lrn.take 80 := by
            by_cases hh : i < 80
            · rw [List.take_of_length_le (show s.lrn.length ≤ i by omega), List.take_of_length_le (show s.lrn.length ≤ 80 by omega)]
            · rw [show i = 80 by omega]
          rw [← this]; exact hal
        have ex : ∀ (P : Prop), ((s.lrn.length ≤ i) → P) → ((i < s.lrn.length) → 80 ≤ i → P) → P := fun P p q => by
          by_cases hh : i < s.lrn.length
          · exact q hh (by omega)
          · exact p (by omega)
        clear hal h5
        refine ex _ (fun hq => ?_) (fun hq hq3 => ?_)
        all_goals
          by_cases l1 : s.vrfs.length ≤ 20
          · by_cases l2 : s.locs.length ≤ 40
            · by_cases l3 : s.acts.length ≤ 40
              · by_cases l4 : s.joins.length ≤ 80
                · by_cases l5 : s.lrn.length ≤ 60
                  · first | (exfalso; omega) | (refine W ?_; exact fin hk (by unfold few19; rw [hv30, hl80]; simp [l1, l2, l3, l4, l5]))
                  · first | (exfalso; omega) | (refine W ?_; exact fin hk (by unfold few19; rw [hv30, hl80]; simp [l1, l2, l3, l4, l5]))
                · first | (exfalso; omega) | (refine W ?_; exact fin hk (by unfold few19; rw [hv30, hl80]; simp [l1, l2, l3, l4]))
              · first | (exfalso; omega) | (refine W ?_; exact fin hk (by unfold few19; rw [hv30, hl80]; simp [l1, l2, l3]))
            · first | (exfalso; omega) | (refine W ?_; exact fin hk (by unfold few19; rw [hv30, hl80]; simp [l1, l2]))
          · first | (exfalso; omega) | (refine W ?_; exact fin hk (by unfold few19; rw [hv30, hl80]; simp [l1]))
theorem cd_fill {u : Us} {b : Int} {n : List UInt8} (hu : okUs u) : splice [PV.int .i64 0, D.o, D.o, D.o, D.o, D.o, D.o, D.o, D.o, D.o, D.o, D.o, D.o, D.o, D.o, D.o, D.o, D.o, D.o, D.o, D.o, D.o, D.o, D.o, D.o, .int .i64 0, D.o, D.o, D.o, D.o, D.o, D.o, D.o, D.o, .int .i64 0, .str []] 0 (usC u) = usC u ++ [PV.int .i64 0, .str []] ∧ splice (usC u ++ [PV.int .i64 0, .str []]) 34 [.int .i64 b] = usC u ++ [PV.int .i64 b, .str []] ∧ splice (usC u ++ [PV.int .i64 b, .str []]) 35 [.str n] = cdC ⟨u, b, n⟩ := by
  have ul := usC_len hu
  refine ⟨?_, spl_sk (o := 0) ul rfl rfl, spl_sk (o := 1) ul rfl rfl⟩
  show splice ([PV.int .i64 0, D.o, D.o, D.o, D.o, D.o, D.o, D.o, D.o, D.o, D.o, D.o, D.o, D.o, D.o, D.o, D.o, D.o, D.o, D.o, D.o, D.o, D.o, D.o, D.o, .int .i64 0, D.o, D.o, D.o, D.o, D.o, D.o, D.o, D.o] ++ [PV.int .i64 0, .str []]) 0 (usC u) = _
  exact spl_hd (by rw [ul]; rfl)
def candsF (v : Vr) (s : Si) (a : Ad) : List Cd := if (hereF v s a).2 = true ∧ (ownF v s).2 = 0 then [⟨(ownF v s).1, (hereF v s a).1.bits, []⟩] else []
theorem hereF_ok {v : Vr} {s : Si} {a : Ad} (hl : ∀ x, x ∈ s.locs → okLc x) : okPf (hereF v s a).1 := hereG_ok _ _ hl pf0_ok
end Go.Proofs.YtjhmobdncjhcnaaGreatDoor
/- rd.Make, Target of whatever number; community.Meet; vrf.Takes, Reaches. -/
namespace Go.Proofs.YtjhmobdncjhcnaaGreatDoor
open Go Go.V
set_option maxRecDepth 10000
set_option linter.unusedVariables false
attribute [local irreducible] vBuild vCallV
set_option maxHeartbeats 16000000 in
theorem uMake1Bad {hi : Nat} {n : Int} (h1 : hi < 4294967296) (hn : n < 0 ∨ 65536 ≤ n) : U Tryz.prog 109 [.int .i64 1, .int .i64 hi, .int .i64 n] (.tup [.agg (u8c z8), .int .i64 5]) := by
  intro σ Post hk
  have d8 : splice [D.o, D.o, D.o, D.o, D.o, D.o, D.o, D.o] 0 [D.o, D.o, D.o, D.o, D.o, D.o, D.o, D.o] = u8c z8 := rfl
  have d9 : splice [D.o, D.o, D.o, D.o, D.o, D.o, D.o, D.o] 0 (u8c z8) = u8c z8 := rfl
  have zl : (u8c z8).length = 8 := rfl
  have zc := cut_hd0 zl
  have zs := u8c_sc z8
  refine T109 fun hB hA => ?_
  refine W ?_
  refine cu (uHigh (k := 1)) ?_
  refine W ?_
  refine cu (uPut (l := []) (n := 1) (z := 2) (by omega) (by omega) (by omega) (by simp)) ?_
  refine W ?_
  refine cu (uPut (l := [] ++ be 1 2) (n := hi) (z := 4) (by omega) (by omega) (by omega) (by simp [be_len])) ?_
  refine W ?_
  refine cu (uPutBad (l := [] ++ be 1 2 ++ be hi 4) hn) ?_
  refine W ?_
  exact hk
set_option maxHeartbeats 16000000 in
theorem uExtTargetBad {hi : Nat} {n : Int} (h1 : hi < 4294967296) (hn : n < 0 ∨ 65536 ≤ n) : U Tryz.prog 55 [.int .i64 1, .int .i64 hi, .int .i64 n] (.tup [.agg (u8c z8), .int .i64 5]) := by
  intro σ Post hk
  have d8 : splice [D.o, D.o, D.o, D.o, D.o, D.o, D.o, D.o] 0 [D.o, D.o, D.o, D.o, D.o, D.o, D.o, D.o] = u8c z8 := rfl
  have d9 : splice [D.o, D.o, D.o, D.o, D.o, D.o, D.o, D.o] 0 (u8c z8) = u8c z8 := rfl
  have zl : (u8c z8).length = 8 := rfl
  have zc := cut_hd0 zl
  have zs := u8c_sc z8
  refine T55 fun hB hA => ?_
  refine W ?_
  refine cu (uMake1Bad h1 hn) ?_
  refine W ?_
  exact hk
def tgtG (pe : Ad) (n : Int) : List UInt8 × Int := if router4 pe = true then (if n < 0 ∨ 65536 ≤ n then (z8, 5) else (tgt (big (pe.b.take 4) 0) n.toNat, 0)) else (z8, 1)
theorem tgtG_len (pe : Ad) (n : Int) : (tgtG pe n).1.length = 8 := by
  unfold tgtG; split
  · split
    · rfl
    · exact tgt_len _ _
  · rfl
theorem tgtG_in {pe : Ad} {n : Int} (h0 : 0 ≤ n) (h1 : n < 65536) : tgtG pe n = tgtF pe n := by
  unfold tgtG tgtF
  rw [if_neg (show ¬ (n < 0 ∨ 65536 ≤ n) by omega)]
theorem tgtG_out {pe : Ad} {n : Int} (h : n < 0 ∨ 65536 ≤ n) : tgtG pe n = if router4 pe = true then (z8, 5) else (z8, 1) := by
  unfold tgtG; rw [if_pos h]
set_option maxHeartbeats 16000000 in
theorem uVTargetG {pe : Ad} {n : Int} (hp : okD pe) : U Tryz.prog 20 [.agg (adc pe), .int .i64 n] (.tup [.agg (u8c (tgtG pe n).1), .int .i64 (tgtG pe n).2]) := by
  by_cases hn : n < 0 ∨ 65536 ≤ n
  · intro σ Post hk
    have sc := adc_sc (a := pe)
    have ln := adc_len hp
    have c0 := adc_all hp
    have cs := adc_s (a := pe)
    have d8 : splice [D.o, D.o, D.o, D.o, D.o, D.o, D.o, D.o] 0 [D.o, D.o, D.o, D.o, D.o, D.o, D.o, D.o] = u8c z8 := rfl
    have d9 : splice [D.o, D.o, D.o, D.o, D.o, D.o, D.o, D.o] 0 (u8c z8) = u8c z8 := rfl
    have zl : (u8c z8).length = 8 := rfl
    have zc := cut_hd0 zl
    have zs := u8c_sc z8
    rw [tgtG_out hn] at hk
    refine T20 fun hB hA => ?_
    refine W ?_
    refine cu (uRightD hp) ?_
    cases hr : okAd pe with
    | true =>
      by_cases h4 : pe.s = 4
      · have hf : router4 pe = true := by simp [router4, hr, h4]
        rw [if_pos hf] at hk
        clear hf
        have ea : abytes pe = pe.b.take 4 := by unfold abytes; rw [if_pos hr, h4]; rfl
        have l4 : (pe.b.take 4).length = 4 := by rw [List.length_take, hp]; rfl
        have hb : big (pe.b.take 4) 0 < 4294967296 := by have := big_lt (pe.b.take 4) 0; rw [l4] at this; omega
        refine W ?_
        refine cu (uABytes hp) ?_
        rw [ea]
        refine W ?_
        refine ct ?_
        refine tOpen (l := pe.b.take 4) (by omega) ?_
        refine W ?_
        refine ct ?_
        refine tNumOk (l := pe.b.take 4) (z := 4) (lget rfl rfl) (by omega) (by omega) (by omega) ?_
        rw [lset rfl, List.take_take, show min 4 4 = 4 from rfl]
        refine W ?_
        refine cu (uExtTargetBad hb hn) ?_
        refine W ?_
        exact hk
      · have hf : ¬ router4 pe = true := by simp [router4, h4]
        rw [if_neg hf] at hk
        clear hf
        refine W ?_
        exact hk
    | false =>
      have hf : ¬ router4 pe = true := by simp [router4, hr]
      rw [if_neg hf] at hk
      clear hf
      refine W ?_
      exact hk
  · rw [tgtG_in (by omega) (by omega)]
    exact uVTarget hp (by omega) (by omega)
def hasE (e : List UInt8) (l : List (List UInt8)) : Bool := l.any fun x => decide (e = x)
set_option maxHeartbeats 16000000 in
theorem uIndexE {l : List (List UInt8)} {v : List UInt8} (hv : v.length = 8) (ho : ∀ x, x ∈ l → x.length = 8) (hl : l.length ≤ 4611686018427387904) : U Tryz.prog 155 [.sl (l.map u8c), .agg (u8c v)] (.int .i64 (idxF (fun x => decide (v = x)) l)) := by
  intro σ Post hk
  have b1 : (l.map u8c).length = l.length := List.length_map _
  have vl := u8c_len8 hv
  have vs := u8c_sc v
  have vc := cut_hd0 vl
  refine T155 fun hB hA => ?_
  refine W ?_
  refine lp (fun j e s => ∃ i : Nat, i + j = l.length ∧ e 8 = .int .i64 i ∧ ((l.take i).any fun x => decide (v = x)) = false ∧ s = σ ++ [(1, VObj.box (u8c v) false)]) l.length ⟨0, by simp, rfl, by simp, rfl⟩ ?_
  rintro j u _ ⟨i, hi, e8, hal, rfl⟩
  by_cases h5 : i < l.length
  · obtain ⟨x, hx⟩ : ∃ x, l[i]? = some x := ⟨_, List.getElem?_eq_getElem h5⟩
    have hg : (l.map u8c)[(i : Int).toNat]? = some (u8c x) := by rw [Int.toNat_natCast, List.getElem?_map, hx]; rfl
    have hm := ho x (List.mem_of_getElem? hx)
    have xl := u8c_len8 hm
    have xc := cut_hd0 xl
    have q0 : eqCells [.i .u8, .i .u8, .i .u8, .i .u8, .i .u8, .i .u8, .i .u8, .i .u8] (u8c v) (u8c x) = some (decide (v = x)) := by have q := eqC_u8 v x (by rw [hv, hm]); rw [hv] at q; exact q.trans (by rw [Bool.beq_eq_decide_eq])
    by_cases hp : v = x
    · rw [idxF_at hal hx (by simpa using hp)] at hk
      rw [decide_eq_true hp] at q0
      refine W ?_
      exact hk
    · rw [decide_eq_false hp] at q0
      refine W ?_
      refine ⟨j - 1, by omega, i + 1, by omega, rfl, ?_, rfl⟩
      rw [take_snoc hx, List.any_append, hal]; simp [hp]
  · have h9 : l.take i = l := List.take_of_length_le (by omega)
    rw [h9] at hal
    rw [idxF_no hal] at hk
    refine W ?_
    exact hk
set_option maxHeartbeats 16000000 in
theorem uContE {l : List (List UInt8)} {v : List UInt8} (hv : v.length = 8) (ho : ∀ x, x ∈ l → x.length = 8) (hl : l.length ≤ 4611686018427387904) : U Tryz.prog 107 [.sl (l.map u8c), .agg (u8c v)] (.bool (hasE v l)) := by
  intro σ Post hk
  have e : decide (0 ≤ idxF (fun x => decide (v = x)) l) = hasE v l := idxF_any _ l
  have vl := u8c_len8 hv
  have vs := u8c_sc v
  have vc := cut_hd0 vl
  rw [← e] at hk
  refine T107 fun hB hA => ?_
  refine W ?_
  refine cu (uIndexE hv ho hl) ?_
  refine W ?_
  exact hk
def meetF (a b : List (List UInt8)) : Bool := a.any fun e => decide (kindE e = 1) && hasE e b
set_option maxHeartbeats 16000000 in
theorem tMeetC {e : List UInt8} {b : List (List UInt8)} {σ : VHeap} {Post : KP} {p g : Nat} (he : e.length = 8) (ho : ∀ x, x ∈ b → x.length = 8) (hl : b.length ≤ 4611686018427387904) (hg : vGet σ p g = some (.box [.sl (b.map u8c)] false)) (hk : Post (.bool (decide (kindE e = 1) && hasE e b)) σ) : T Tryz.prog 154 [.agg (u8c e), .ptr p g 0] σ Post := by
  skip
  have vl := u8c_len8 he
  have vs := u8c_sc e
  have vc := cut_hd0 vl
  have hi := vGet_lt hg
  have cb : cut [PV.sl (b.map u8c)] 0 none = some (.sl (b.map u8c)) := rfl
  refine T154 fun hB hA => ?_
  refine W ?_
  refine cu (uKind he) ?_
  by_cases h1 : kindE e = 1
  · refine W ?_
    refine cu (uContE he ho hl) ?_
    refine W ?_
    exact fin hk (by simp [h1])
  · refine W ?_
    exact fin hk (by simp [h1])
set_option maxHeartbeats 16000000 in
theorem uMeet {a b : List (List UInt8)} (ha : ∀ x, x ∈ a → x.length = 8) (hb : ∀ x, x ∈ b → x.length = 8) (la : a.length ≤ 4611686018427387904) (lb : b.length ≤ 4611686018427387904) : U Tryz.prog 106 [.sl (a.map u8c), .sl (b.map u8c)] (.bool (meetF a b)) := by
  intro σ Post hk
  have hc : callOk Tryz.prog 154 = true := by kernel_rfl
  refine T106 fun hB hA => ?_
  refine W ?_
  refine ct ?_
  refine tConE (l := a) (p := fun e => decide (kindE e = 1) && hasE e b) la hc ha (fun x hx L Q hq => tMeetC (ha x hx) hb lb (oget (lget rfl rfl)) hq) ?_
  refine W ?_
  exact hk
def takeV (v : Vr) (pe : Ad) (r : Rt) : Bool :=
  rtR r && (if r.safi = 128 then meetF v.imp r.att.ex
    else if r.m.k = 6 ∨ r.m.k = 7 then decide ((tgtG pe v.num).2 = 0) && hasE (tgtG pe v.num).1 r.att.ex
    else if r.m.k ≠ 4 then meetF v.imp r.att.ex
    else decide ((tgtG pe 0).2 = 0) && hasE (tgtG pe 0).1 r.att.ex)
set_option maxHeartbeats 16000000 in
theorem uTakesV {v : Vr} {pe : Ad} {r : Rt} (hv : okVrf v) (hp : okD pe) (h : okRib r) (ex8 : ∀ e, e ∈ r.att.ex → e.length = 8) (li : v.imp.length ≤ 1000000) : U Tryz.prog 50 [.agg (vrC v), .agg (adc pe), .agg (rtC r)] (.bool (takeV v pe r)) := by
  intro σ Post hk
  have ov := hv.ok
  have vsc := vrC_sc (x := v)
  have vln := vrC_len ov
  have vca := vrC_all ov
  have vg1 := vrC_gnum ov
  have vg2 := vrC_gimp ov
  have vg3 := vrC_gexp ov
  have rsc := rtC_sc (x := r)
  have rln := rtC_len h.ok
  have rca := rtC_all h.ok
  have rg1 := rtC_gsafi h.ok
  have psc := adc_sc (a := pe)
  have pln := adc_len hp
  have pca := adc_all hp
  have rgk : cut (rtC r) 2 none = some (.int .i64 r.m.k) := cut_sk (n := 1) (o := 1) rfl rfl (cut_sk (n := 1) (o := 0) rfl rfl ((cut_pre1 (by rw [mrc_len h.ok.m]; decide)).trans rfl))
  have rge : cut (rtC r) 130 none = some (.sl (r.att.ex.map u8c)) := rt_ga (o := 22) h.ok (atC_gex h.ok.att)
  refine T50 fun hB hA => ?_
  refine W ?_
  refine cu (uName15 h) ?_
  cases hr : rtR r with
  | true =>
    have l3 := (atR_parts (rtR_at hr)).ex
    by_cases s8 : r.safi = 128
    · refine W ?_
      refine cu (uMeet hv.imp ex8 (by omega) (by omega)) ?_
      refine W ?_
      exact fin hk (by unfold takeV; simp [hr, s8])
    · by_cases k6 : r.m.k = 6
      · have tl := u8c_len8 (tgtG_len pe v.num)
        have ts := u8c_sc (tgtG pe v.num).1
        have tc := cut_hd0 tl
        have d8 := spl_any8 (cs := [D.o, D.o, D.o, D.o, D.o, D.o, D.o, D.o]) tl
        refine W ?_
        refine cu (uVTargetG (n := v.num) hp) ?_
        by_cases h0 : (tgtG pe v.num).2 = 0
        · refine W ?_
          refine cu (uContE (tgtG_len pe v.num) ex8 (by omega)) ?_
          refine W ?_
          exact fin hk (by unfold takeV; simp [hr, s8, k6, h0])
        · refine W ?_
          exact fin hk (by unfold takeV; simp [hr, s8, k6, h0])
      · by_cases k7 : r.m.k = 7
        · have tl := u8c_len8 (tgtG_len pe v.num)
          have ts := u8c_sc (tgtG pe v.num).1
          have tc := cut_hd0 tl
          have d8 := spl_any8 (cs := [D.o, D.o, D.o, D.o, D.o, D.o, D.o, D.o]) tl
          refine W ?_
          refine cu (uVTargetG (n := v.num) hp) ?_
          by_cases h0 : (tgtG pe v.num).2 = 0
          · refine W ?_
            refine cu (uContE (tgtG_len pe v.num) ex8 (by omega)) ?_
            refine W ?_
            exact fin hk (by unfold takeV; simp [hr, s8, k6, k7, h0])
          · refine W ?_
            exact fin hk (by unfold takeV; simp [hr, s8, k6, k7, h0])
        · by_cases k4 : r.m.k = 4
          · have tl := u8c_len8 (tgtG_len pe 0)
            have ts := u8c_sc (tgtG pe 0).1
            have tc := cut_hd0 tl
            have d8 := spl_any8 (cs := [D.o, D.o, D.o, D.o, D.o, D.o, D.o, D.o]) tl
            refine W ?_
            refine cu (uVTargetG (n := 0) hp) ?_
            by_cases h0 : (tgtG pe 0).2 = 0
            · refine W ?_
              refine cu (uContE (tgtG_len pe 0) ex8 (by omega)) ?_
              refine W ?_
              exact fin hk (by unfold takeV; simp [hr, s8, k6, k7, k4, h0])
            · refine W ?_
              exact fin hk (by unfold takeV; simp [hr, s8, k6, k7, k4, h0])
          · refine W ?_
            refine cu (uMeet hv.imp ex8 (by omega) (by omega)) ?_
            refine W ?_
            exact fin hk (by unfold takeV; simp [hr, s8, k6, k7, k4])
  | false =>
    refine W ?_
    exact fin hk (by unfold takeV; simp [hr])
end Go.Proofs.YtjhmobdncjhcnaaGreatDoor
