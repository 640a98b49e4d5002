/- The law UmhHere as a triple. -/
import Derived.Test.YtjhmobdncjhcnaaGreatDoorR28
namespace Go.Proofs.YtjhmobdncjhcnaaGreatDoor
open Go Go.V
set_option maxRecDepth 10000
set_option linter.unusedVariables false
attribute [local irreducible] vBuild vCallV
instance : DecidableEq Pf := fun a b => by
  cases a; cases b; simp only [Pf.mk.injEq]; infer_instance
theorem eqC_pf {x y : Pf} (hx : okPf x) (hy : okPf y) : eqCells [.i .i64, .i .u8, .i .u8, .i .u8, .i .u8, .i .u8, .i .u8, .i .u8, .i .u8, .i .u8, .i .u8, .i .u8, .i .u8, .i .u8, .i .u8, .i .u8, .i .u8, .i .i64] (pfC x) (pfC y) = some (decide (x = y)) := by
  have h := eqC_app (eqC_ad hx.a hy.a) (eqC_i x.bits y.bits)
  have e : ((x.a == y.a) && (x.bits == y.bits)) = decide (x = y) := by
    rw [Bool.eq_iff_iff]
    cases x; cases y
    simp [Pf.mk.injEq]
  rw [e] at h
  exact h
theorem eqC_us {x : Us} (hx : okUs x) : eqCells [.i .i64, .i .u8, .i .u8, .i .u8, .i .u8, .i .u8, .i .u8, .i .u8, .i .u8, .i .u8, .i .u8, .i .u8, .i .u8, .i .u8, .i .u8, .i .u8, .i .u8, .i .u8, .i .u8, .i .u8, .i .u8, .i .u8, .i .u8, .i .u8, .i .u8, .i .i64, .i .u8, .i .u8, .i .u8, .i .u8, .i .u8, .i .u8, .i .u8, .i .u8] (usC x) (usC x) = some true := by
  have h1 := eqC_u8 x.imp x.imp rfl
  have h2 := eqC_u8 x.rd x.rd rfl
  rw [show x.imp.length = 8 from hx.imp] at h1
  rw [show x.rd.length = 8 from hx.rd] at h2
  have h := eqC_app (eqC_ad hx.pe hx.pe) (eqC_app h1 (eqC_app (eqC_i x.asn x.asn) h2))
  simp only [beq_self_eq_true, Bool.and_self] at h
  exact h
theorem hereG_in {n : List UInt8} {a : Ad} : ∀ (l : List Lc) (b : Pf × Bool), (b.2 = false → b.1 = pf0) → ((hereG n a l b).2 = false → (hereG n a l b).1 = pf0) ∧ ((hereG n a l b).2 = true → (b.2 = true ∧ (hereG n a l b).1 = b.1) ∨ (l.any fun x => decide (x.vrf = n) && decide (x.pf = (hereG n a l b).1)) = true)
  | [], b, h => ⟨h, fun h2 => .inl ⟨h2, rfl⟩⟩
  | x :: r, b, h => by
    unfold hereG
    split
    · rename_i hc
      obtain ⟨i1, i2⟩ := hereG_in (n := n) (a := a) r (x.pf, true) (fun e => by cases e)
      refine ⟨i1, fun e => .inr ?_⟩
      rcases i2 e with ⟨_, e2⟩ | e2
      · rw [e2, List.any_cons]; simp [hc.1]
      · rw [List.any_cons, e2, Bool.or_true]
    · obtain ⟨i1, i2⟩ := hereG_in (n := n) (a := a) r b h
      refine ⟨i1, fun e => ?_⟩
      rcases i2 e with h3 | e2
      · exact .inl h3
      · exact .inr (by rw [List.any_cons, e2, Bool.or_true])
theorem hereF_none {v : Vr} {s : Si} {a : Ad} (h : (hereF v s a).2 = false) : (hereF v s a).1 = pf0 := (hereG_in _ _ (fun _ => rfl)).1 h
theorem hereF_some {v : Vr} {s : Si} {a : Ad} (h : (hereF v s a).2 = true) : (s.locs.any fun x => decide (x.vrf = v.name) && decide (x.pf = (hereF v s a).1)) = true := by
  rcases (hereG_in (n := v.name) (a := a) s.locs (pf0, false) (fun _ => rfl)).2 h with ⟨e, _⟩ | e
  · cases e
  · exact e
def siN (s : Si) : List PV := adc s.pe ++ ([.int .i64 s.asn] ++ ([.sl (s.vrfs.map vrC)] ++ ([.sl (s.locs.map lcC)] ++ ([.sl (s.acts.map flC)] ++ ([.sl (s.joins.map jnC)] ++ [.nils])))))
section
variable {s : Si}
theorem siN_set (h : okSi s) : splice (siC s) 22 [.nils] = siN s := spl_sk (o := 5) (adc_len h.pe) rfl (spl_sk (n := 1) (o := 4) rfl rfl (spl_sk (n := 1) (o := 3) rfl rfl (spl_sk (n := 1) (o := 2) rfl rfl (spl_sk (n := 1) (o := 1) rfl rfl (spl_sk (n := 1) (o := 0) rfl rfl (spl_hd0 rfl))))))
theorem siN_len (h : okSi s) : (siN s).length = 23 := by
  unfold siN
  simp only [List.length_append, List.length_cons, List.length_nil, (adc_len h.pe)]
theorem siN_all (h : okSi s) : cut (siN s) 0 (some 23) = some (.agg (siN s)) := cut_hd0 (siN_len h)
theorem siN_pe (h : okSi s) : cut (siN s) 0 (some 17) = some (.agg (adc s.pe)) := cut_hd (adc_len h.pe)
theorem siN_locs (h : okSi s) : cut (siN s) 19 none = some (.sl (s.locs.map lcC)) := cut_sk (o := 2) (adc_len h.pe) rfl (cut_sk (n := 1) (o := 1) rfl rfl (cut_sk (n := 1) (o := 0) rfl rfl rfl))
theorem siN_sc : (siN s).all scalar = true := by
  unfold siN
  simp only [List.all_append, adc_sc, List.all_cons, List.all_nil, scalar, Bool.and_self]
theorem siN_inl {n : Nat} {L0 L : VHeap} : InlA n L0 L (siN s) (siC { s with lrn := [] }) L :=
  InlA_app (InlA_pl inferInstance) (InlA_app (InlA_pl inferInstance) (InlA_app (InlA_pl inferInstance) (InlA_app (InlA_pl inferInstance) (InlA_app (InlA_pl inferInstance) (InlA_app (InlA_pl inferInstance) (.nils (.nil _)))))))
end
set_option maxHeartbeats 16000000 in
theorem tUmhHere {v : Vr} {s : Si} {a : Ad} (hv : okVr v) (hs : okSi s) (ha : okD a) (hl : ∀ x, x ∈ s.locs → okLc x) (hvs : ∀ x, x ∈ s.vrfs → okVr x) (hlr : ∀ r, r ∈ s.lrn → okArg r) (sm : U Tryz.prog 24 [] (.bool true)) : U Tryz.prog 9 [.agg (vrC v), .agg (siC s), .agg (adc a)] (.bool true) := by
  intro σ Post hk
  have vs := vrC_sc (x := v)
  have vl := vrC_len hv
  have vc := vrC_all hv
  have vg1 := vrC_gname hv
  have ss := siC_sc (x := s)
  have sl := siC_len hs
  have sa := siC_all hs
  have sc := adc_sc (a := a)
  have ln := adc_len ha
  have c0 := adc_all ha
  have pl := adc_len hs.pe
  have psc := adc_sc (a := s.pe)
  have n1 := siN_set hs
  have n2 := siN_len hs
  have n3 := siN_all hs
  have n4 := siN_pe hs
  have n5 := siN_locs hs
  have n6 := siN_sc (s := s)
  have b1 : (s.locs.map lcC).length = s.locs.length := List.length_map _
  refine T9 fun hB hA => ?_
  refine W ?_
  refine cu sm ?_
  refine W ?_
  refine cu (uFew19 hs hvs hlr) ?_
  cases hf : few19 s with
  | false =>
    refine W ?_
    exact hk
  | true =>
  have hn : s.locs.length ≤ 40 := by
    unfold few19 at hf
    simp only [Bool.and_eq_true, decide_eq_true_eq] at hf
    exact hf.2.2.2.1
  have hs' : okSi { s with lrn := [] } := ⟨hs.pe⟩
  have okB := hereF_ok (v := v) (a := a) hl
  have okS := selF_ok (a := a) hv hs
  have okO := ownF_ok hv hs
  have bl := pfC_len okB
  have bc := pfC_all okB
  have bs := pfC_sc (x := (hereF v s a).1)
  have bd := pfC_any okB (cs := [PV.int .i64 0, D.o, D.o, D.o, D.o, D.o, D.o, D.o, D.o, D.o, D.o, D.o, D.o, D.o, D.o, D.o, D.o, .int .i64 0]) rfl
  have ul := usC_len okS
  have uc := usC_all okS
  have us := usC_sc (x := (selF v s a).1)
  have ud := usC_any okS (cs := [PV.int .i64 0, D.o, D.o, D.o, D.o, D.o, D.o, D.o, D.o, D.o, D.o, D.o, D.o, D.o, D.o, D.o, D.o, D.o, D.o, D.o, D.o, D.o, D.o, D.o, D.o, .int .i64 0, D.o, D.o, D.o, D.o, D.o, D.o, D.o, D.o]) rfl
  have ug := usC_gpe okS
  have ol := usC_len okO
  have oc := usC_all okO
  have os := usC_sc (x := (ownF v s).1)
  have od := usC_any okO (cs := [PV.int .i64 0, D.o, D.o, D.o, D.o, D.o, D.o, D.o, D.o, D.o, D.o, D.o, D.o, D.o, D.o, D.o, D.o, D.o, D.o, D.o, D.o, D.o, D.o, D.o, D.o, .int .i64 0, D.o, D.o, D.o, D.o, D.o, D.o, D.o, D.o]) rfl
  refine W ?_
  refine cu (uHere hv hs ha hl (by omega)) ?_
  refine W ?_
  refine cu (uSelect0 (s := { s with lrn := [] }) hv hs' ha hl (by show s.locs.length ≤ _; omega) rfl) ?_ (by exact z_hn) (by exact z_ma) (InlA.pl inferInstance (InlA.agg siN_inl (.pl inferInstance (.nil _)))) rfl
  have e1 : selF v { s with lrn := [] } a = selF v s a := rfl
  have e2 : ownF v { s with lrn := [] } = ownF v s := rfl
  rw [e1]
  refine W ?_
  refine cu (uOwn (s := { s with lrn := [] }) hv hs') ?_ (by exact z_hn) (by exact z_ma) (InlA.pl inferInstance (InlA.agg siN_inl (.nil _))) rfl
  rw [e2]
  cases hb : (hereF v s a).2 with
  | false =>
    have hp0 := hereF_none hb
    have hs0 : selF v s a = (us0, false) := by unfold selF; rw [hb, if_neg (by simp)]
    have q1 : eqCells [.i .i64, .i .u8, .i .u8, .i .u8, .i .u8, .i .u8, .i .u8, .i .u8, .i .u8, .i .u8, .i .u8, .i .u8, .i .u8, .i .u8, .i .u8, .i .u8, .i .u8, .i .i64] (pfC (hereF v s a).1) [PV.int .i64 0, D.o, D.o, D.o, D.o, D.o, D.o, D.o, D.o, D.o, D.o, D.o, D.o, D.o, D.o, D.o, D.o, .int .i64 0] = some true := by rw [hp0]; rfl
    have q2 : eqCells [.i .i64, .i .u8, .i .u8, .i .u8, .i .u8, .i .u8, .i .u8, .i .u8, .i .u8, .i .u8, .i .u8, .i .u8, .i .u8, .i .u8, .i .u8, .i .u8, .i .u8, .i .u8, .i .u8, .i .u8, .i .u8, .i .u8, .i .u8, .i .u8, .i .u8, .i .i64, .i .u8, .i .u8, .i .u8, .i .u8, .i .u8, .i .u8, .i .u8, .i .u8] (usC (selF v s a).1) [PV.int .i64 0, D.o, D.o, D.o, D.o, D.o, D.o, D.o, D.o, D.o, D.o, D.o, D.o, D.o, D.o, D.o, D.o, D.o, D.o, D.o, D.o, D.o, D.o, D.o, D.o, .int .i64 0, D.o, D.o, D.o, D.o, D.o, D.o, D.o, D.o] = some true := by rw [hs0]; rfl
    have q3 : (selF v s a).2 = false := by rw [hs0]
    rw [q3]
    refine W ?_
    exact hk
  | true =>
  refine W ?_
  refine lp (fun j e h => ∃ i : Nat, i + j = s.locs.length ∧ e 16 = .int .i64 i ∧ e 15 = .bool ((s.locs.take i).any fun x => decide (x.vrf = v.name) && decide (x.pf = (hereF v s a).1)) ∧ h = σ ++ [(1, VObj.box (vrC v) false), (1, .box (siN s) false), (1, .box (adc a) false), (1, .box (pfC (hereF v s a).1) false), (1, .box (usC (selF v s a).1) false), (1, .box (usC (ownF v s).1) false)]) s.locs.length ⟨0, by simp, rfl, rfl, rfl⟩ ?_
  rintro j u _ ⟨i, hi, e16, e15, rfl⟩
  by_cases h5 : i < s.locs.length
  · obtain ⟨x, hx⟩ : ∃ x, s.locs[i]? = some x := ⟨_, List.getElem?_eq_getElem h5⟩
    have hg : (s.locs.map lcC)[(i : Int).toNat]? = some (lcC x) := by rw [Int.toNat_natCast, List.getElem?_map, hx]; rfl
    have hm := hl x (List.mem_of_getElem? hx)
    have xl := lcC_len hm
    have xg1 := lcC_gvrf hm
    have xg2 := lcC_gpf hm
    have ql := pfC_len hm.pf
    have q0 := eqC_pf hm.pf okB
    cases hal : ((s.locs.take i).any fun x => decide (x.vrf = v.name) && decide (x.pf = (hereF v s a).1)) with
    | true =>
      rw [hal] at e15
      refine W ?_
      exact ⟨j - 1, by omega, i + 1, by omega, rfl, (by show PV.bool true = _; rw [take_snoc hx, List.any_append, hal]; simp [*]), rfl⟩
    | false =>
      rw [hal] at e15
      by_cases h1 : x.vrf = v.name
      · have sb : sbin .eql x.vrf v.name = some (.bool true) := sb_eqlT h1
        by_cases h2 : x.pf = (hereF v s a).1
        · rw [decide_eq_true h2] at q0
          refine W ?_
          exact ⟨j - 1, by omega, i + 1, by omega, rfl, (by show PV.bool true = _; rw [take_snoc hx, List.any_append, hal]; simp [*]), rfl⟩
        · rw [decide_eq_false h2] at q0
          refine W ?_
          exact ⟨j - 1, by omega, i + 1, by omega, rfl, (by show PV.bool false = _; rw [take_snoc hx, List.any_append, hal]; simp [*]), rfl⟩
      · have sb : sbin .eql x.vrf v.name = some (.bool false) := by rw [sb_eql, decide_eq_false h1]
        refine W ?_
        exact ⟨j - 1, by omega, i + 1, by omega, rfl, (by show PV.bool false = _; rw [take_snoc hx, List.any_append, hal]; simp [*]), rfl⟩
  · have h9 : s.locs.take i = s.locs := List.take_of_length_le (by omega)
    rw [h9, hereF_some hb] at e15
    by_cases h0 : (ownF v s).2 = 0
    · have hs1 : selF v s a = ((ownF v s).1, true) := by unfold selF; rw [if_pos ⟨hb, h0⟩]
      have hpe : (ownF v s).1.pe = s.pe := by unfold ownF at h0 ⊢; split at h0 <;> rename_i hc <;> first | (rw [if_pos hc]) | (exact absurd h0 hc)
      have q1 : eqCells [.i .i64, .i .u8, .i .u8, .i .u8, .i .u8, .i .u8, .i .u8, .i .u8, .i .u8, .i .u8, .i .u8, .i .u8, .i .u8, .i .u8, .i .u8, .i .u8, .i .u8, .i .u8, .i .u8, .i .u8, .i .u8, .i .u8, .i .u8, .i .u8, .i .u8, .i .i64, .i .u8, .i .u8, .i .u8, .i .u8, .i .u8, .i .u8, .i .u8, .i .u8] (usC (selF v s a).1) (usC (ownF v s).1) = some true := by rw [hs1]; exact eqC_us okO
      have q2 : eqCells [.i .i64, .i .u8, .i .u8, .i .u8, .i .u8, .i .u8, .i .u8, .i .u8, .i .u8, .i .u8, .i .u8, .i .u8, .i .u8, .i .u8, .i .u8, .i .u8, .i .u8] (adc (selF v s a).1.pe) (adc s.pe) = some true := by rw [hs1]; dsimp only; rw [hpe]; have q := eqC_ad hs.pe hs.pe; rw [beq_self_eq_true] at q; exact q
      have al := adc_len okS.pe
      have q3 : (selF v s a).2 = true := by rw [hs1]
      rw [q3]
      refine W ?_
      exact hk
    · have hs0 : selF v s a = (us0, false) := by unfold selF; rw [if_neg (fun e => h0 e.2)]
      have q3 : (selF v s a).2 = false := by rw [hs0]
      rw [q3]
      refine W ?_
      exact hk
end Go.Proofs.YtjhmobdncjhcnaaGreatDoor
