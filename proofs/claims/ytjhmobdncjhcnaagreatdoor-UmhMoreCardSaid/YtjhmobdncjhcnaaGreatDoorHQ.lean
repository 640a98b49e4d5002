/- The law UmhHere as a triple. -/
import Derived.Test.YtjhmobdncjhcnaaGreatDoorHV
import Derived.Test.YtjhmobdncjhcnaaGreatDoorHS
namespace Go.Proofs.YtjhmobdncjhcnaaGreatDoor
open Go Go.V
set_option maxRecDepth 10000
set_option linter.unusedVariables false
attribute [local irreducible] vBuild vCallV
instance : DecidableEq Pf := fun a b => by
  cases a; cases b; simp only [Pf.mk.injEq]; infer_instance
section
variable {s : Si}
end
end Go.Proofs.YtjhmobdncjhcnaaGreatDoor
/- umh.Select. -/
namespace Go.Proofs.YtjhmobdncjhcnaaGreatDoor
open Go Go.V
set_option maxRecDepth 10000
set_option linter.unusedVariables false
attribute [local irreducible] vBuild vCallV
def selL : List Cd → Us × Bool
  | [] => (us0, false)
  | c :: l => ((minF selCmp c l).up, true)
def selG (v : Vr) (s : Si) (a : Ad) : Us × Bool := selL (candsG v s a)
theorem selL_ok : ∀ {l : List Cd}, (∀ c, c ∈ l → okCd c) → okUs (selL l).1
  | [], _ => us0_ok
  | c :: l, h => (minF_ok (h c List.mem_cons_self) fun x hx => h x (List.mem_cons_of_mem _ hx)).up
theorem selG_ok {v : Vr} {s : Si} {a : Ad} (hv : okVr v) (hs : okSi s) (h : ∀ r, r ∈ s.lrn → okCRt r) : okUs (selG v s a).1 := selL_ok (candsG_ok hv hs h)
theorem selL_more (X Y : List Cd) (h : Y.length ≤ 1) : ((selL Y).2 = false ∧ selL (X ++ Y) = selL X) ∨ ((selL Y).2 = true ∧ (selL (X ++ Y)).2 = true ∧ ((selL (X ++ Y)).1 = (selL Y).1 ∨ ((selL X).2 = true ∧ (selL (X ++ Y)).1 = (selL X).1))) := by
  match Y, h with
  | [], _ => exact .inl ⟨rfl, by rw [List.append_nil]⟩
  | [c], _ =>
    refine .inr ⟨rfl, ?_⟩
    match X with
    | [] => exact ⟨rfl, .inl rfl⟩
    | d :: l =>
      refine ⟨rfl, ?_⟩
      have e : (selL ((d :: l) ++ [c])).1 = (minF selCmp d (l ++ [c])).up := rfl
      rw [e, minF_snoc]
      by_cases hc : selCmp c (minF selCmp d l) < 0
      · rw [if_pos hc]; exact .inl rfl
      · rw [if_neg hc]; exact .inr ⟨rfl, rfl⟩
  | _ :: _ :: _, h => exact absurd h (by simp)
set_option maxHeartbeats 32000000 in
theorem uSelect {v : Vr} {s : Si} {a : Ad} (hv : okVrf v) (hs : okSi s) (ha : okD a) (hl : ∀ x, x ∈ s.locs → okLc x) (hn : s.locs.length ≤ 1000000) (h : ∀ r, r ∈ s.lrn → okCRt r) (li : v.imp.length ≤ 1000000) (hn2 : s.lrn.length ≤ 999999) : U Tryz.prog 26 [.agg (vrC v), .agg (siC s), .agg (adc a)] (.tup [.agg (usC (selG v s a).1), .bool (selG v s a).2]) := by
  intro σ Post hk
  have vs := vrC_sc (x := v)
  have vl := vrC_len hv.ok
  have vc := vrC_all hv.ok
  have vg1 := vrC_gname hv.ok
  have ss := siC_sc (x := s)
  have sl := siC_len hs
  have sa := siC_all hs
  have sg1 := siC_gpe hs
  have sg2 := siC_gasn hs
  have sg0 := siC_gvrfs hs
  have sg3 := siC_glocs hs
  have sg4 := siC_glrn hs
  have sg5 := siC_gacts hs
  have sg6 := siC_gjoins hs
  have sc := adc_sc (a := a)
  have ln := adc_len ha
  have c0 := adc_all ha
  have z34 : splice [PV.int .i64 0, D.o, D.o, D.o, D.o, D.o, D.o, D.o, D.o, D.o, D.o, D.o, D.o, D.o, D.o, D.o, D.o, D.o, D.o, D.o, D.o, D.o, D.o, D.o, D.o, .int .i64 0, D.o, D.o, D.o, D.o, D.o, D.o, D.o, D.o] 0 [PV.int .i64 0, D.o, D.o, D.o, D.o, D.o, D.o, D.o, D.o, D.o, D.o, D.o, D.o, D.o, D.o, D.o, D.o, D.o, D.o, D.o, D.o, D.o, D.o, D.o, D.o, .int .i64 0, D.o, D.o, D.o, D.o, D.o, D.o, D.o, D.o] = usC us0 := rfl
  have zl := usC_len us0_ok
  have zc := usC_all us0_ok
  have zs := usC_sc (x := us0)
  have uC := uCands hv hs ha hl hn h li (by omega)
  have cok := candsG_ok (a := a) hv.ok hs h
  have cln := candsG_len (v := v) (s := s) (a := a)
  unfold selG at hk
  refine T26 fun hB hA => ?_
  generalize candsG v s a = X at *
  cases X with
  | nil =>
    have b1 : (([] : List Cd).map cdC).length = 0 := rfl
    refine W ?_
    refine cu uC ?_
    refine W ?_
    exact hk
  | cons c l =>
    have okc := cok c List.mem_cons_self
    have okl : ∀ x, x ∈ l → okCd x := fun x hx => cok x (List.mem_cons_of_mem _ hx)
    have hll : l.length ≤ 1000000 := by rw [List.length_cons] at cln; omega
    have um := uMin okc okl hll fun x y hx hy => uSelCmp hx hy
    have okm := minF_ok (p := selCmp) okc okl
    have b1 : ((c :: l).map cdC).length = l.length + 1 := by rw [List.length_map, List.length_cons]
    have hk : Post (.tup [.agg (usC (minF selCmp c l).up), .bool true]) σ := hk
    generalize minF selCmp c l = M at *
    have cl := cdC_len okm
    have cc := cdC_all okm
    have csc := cdC_sc (x := M)
    have cd := cdC_any okm (cs := [PV.int .i64 0, D.o, D.o, D.o, D.o, D.o, D.o, D.o, D.o, D.o, D.o, D.o, D.o, D.o, D.o, D.o, D.o, D.o, D.o, D.o, D.o, D.o, D.o, D.o, D.o, .int .i64 0, D.o, D.o, D.o, D.o, D.o, D.o, D.o, D.o, .int .i64 0, .str []]) rfl
    have ol := usC_len okm.up
    have oc := usC_all okm.up
    have osc := usC_sc (x := M.up)
    have od := usC_any okm.up (cs := [PV.int .i64 0, D.o, D.o, D.o, D.o, D.o, D.o, D.o, D.o, D.o, D.o, D.o, D.o, D.o, D.o, D.o, D.o, D.o, D.o, D.o, D.o, D.o, D.o, D.o, D.o, .int .i64 0, D.o, D.o, D.o, D.o, D.o, D.o, D.o, D.o]) rfl
    have cg : cut (cdC M) 0 (some 34) = some (.agg (usC M.up)) := cut_hd ol
    generalize (c :: l).map cdC = XL at *
    refine W ?_
    refine cu uC ?_
    refine W ?_
    refine cu um ?_
    refine W ?_
    exact hk
end Go.Proofs.YtjhmobdncjhcnaaGreatDoor
/- The law UmhMore as a triple. -/
namespace Go.Proofs.YtjhmobdncjhcnaaGreatDoor
open Go Go.V
set_option maxRecDepth 10000
set_option linter.unusedVariables false
attribute [local irreducible] vBuild vCallV
instance : DecidableEq Us := fun a b => by
  cases a; cases b; simp only [Us.mk.injEq]; infer_instance
theorem eqC_us2 {x y : Us} (hx : okUs x) (hy : okUs y) : eqCells [.i .i64, .i .u8, .i .u8, .i .u8, .i .u8, .i .u8, .i .u8, .i .u8, .i .u8, .i .u8, .i .u8, .i .u8, .i .u8, .i .u8, .i .u8, .i .u8, .i .u8, .i .u8, .i .u8, .i .u8, .i .u8, .i .u8, .i .u8, .i .u8, .i .u8, .i .i64, .i .u8, .i .u8, .i .u8, .i .u8, .i .u8, .i .u8, .i .u8, .i .u8] (usC x) (usC y) = some (decide (x = y)) := by
  have h1 := eqC_u8 x.imp y.imp (by rw [show x.imp.length = 8 from hx.imp, show y.imp.length = 8 from hy.imp])
  have h2 := eqC_u8 x.rd y.rd (by rw [show x.rd.length = 8 from hx.rd, show y.rd.length = 8 from hy.rd])
  rw [show x.imp.length = 8 from hx.imp] at h1
  rw [show x.rd.length = 8 from hx.rd] at h2
  have h := eqC_app (eqC_ad hx.pe hy.pe) (eqC_app h1 (eqC_app (eqC_i x.asn y.asn) h2))
  have e : ((x.pe == y.pe) && ((x.imp == y.imp) && ((x.asn == y.asn) && (x.rd == y.rd)))) = decide (x = y) := by
    rw [Bool.eq_iff_iff]
    cases x; cases y
    simp [Us.mk.injEq]
  rw [e] at h
  exact h
def siO (s : Si) (p : PV) : List PV := adc s.pe ++ ([.int .i64 s.asn] ++ ([.sl (s.vrfs.map vrC)] ++ ([.sl (s.locs.map lcC)] ++ ([.sl (s.acts.map flC)] ++ ([.sl (s.joins.map jnC)] ++ [p])))))
def siX (s : Si) (p : PV) : List PV := adc s.pe ++ ([.int .i64 s.asn] ++ ([.nils] ++ ([.nils] ++ ([.nils] ++ ([.nils] ++ [p])))))
section
variable {s : Si} {p : PV}
theorem siO_set (h : okSi s) : splice (siC s) 22 [p] = siO s p := spl_sk (o := 5) (adc_len h.pe) rfl (spl_sk (n := 1) (o := 4) rfl rfl (spl_sk (n := 1) (o := 3) rfl rfl (spl_sk (n := 1) (o := 2) rfl rfl (spl_sk (n := 1) (o := 1) rfl rfl (spl_sk (n := 1) (o := 0) rfl rfl (spl_hd0 rfl))))))
theorem siO_len (h : okSi s) : (siO s p).length = 23 := by
  unfold siO
  simp only [List.length_append, List.length_cons, List.length_nil, (adc_len h.pe)]
theorem siO_all (h : okSi s) : cut (siO s p) 0 (some 23) = some (.agg (siO s p)) := cut_hd0 (siO_len h)
theorem siO_sc (h : scalar p = true) : (siO s p).all scalar = true := by
  unfold siO
  simp only [List.all_append, adc_sc, List.all_cons, List.all_nil, h]
  rfl
theorem siO_inl {n i g : Nat} {L0 L : VHeap} {fz : Bool} {l : List Rt} (h : vGet L0 i g = some (.row 132 (l.map rtC) fz)) : InlA n L0 L (siO s (.row (n + i) g)) (siC { s with lrn := l }) (frzId L i) :=
  InlA_app (InlA_pl inferInstance) (InlA_app (InlA_pl inferInstance) (InlA_app (InlA_pl inferInstance) (InlA_app (InlA_pl inferInstance) (InlA_app (InlA_pl inferInstance) (InlA_app (InlA_pl inferInstance) (.row h rfl (.nil _)))))))
theorem siX_inl {n i g : Nat} {L0 L : VHeap} {fz : Bool} {l : List Rt} (h : vGet L0 i g = some (.row 132 (l.map rtC) fz)) : InlA n L0 L (siX s (.row (n + i) g)) (siC ⟨s.pe, s.asn, [], [], [], [], l⟩) (frzId L i) :=
  InlA_app (InlA_pl inferInstance) (InlA_app (InlA_pl inferInstance) (.nils (.nils (.nils (.nils (.row h rfl (.nil _)))))))
theorem siX_fill (h : okSi s) : splice [PV.int .i64 0, D.o, D.o, D.o, D.o, D.o, D.o, D.o, D.o, D.o, D.o, D.o, D.o, D.o, D.o, D.o, D.o, .int .i64 0, .nils, .nils, .nils, .nils, .nils] 0 (adc s.pe) = adc s.pe ++ [PV.int .i64 0, .nils, .nils, .nils, .nils, .nils] ∧ splice (adc s.pe ++ [PV.int .i64 0, .nils, .nils, .nils, .nils, .nils]) 17 [.int .i64 s.asn] = adc s.pe ++ [PV.int .i64 s.asn, .nils, .nils, .nils, .nils, .nils] ∧ splice (adc s.pe ++ [PV.int .i64 s.asn, .nils, .nils, .nils, .nils, .nils]) 22 [p] = siX s p := by
  refine ⟨?_, spl_sk (o := 0) (adc_len h.pe) rfl rfl, spl_sk (o := 5) (adc_len h.pe) rfl rfl⟩
  show splice ([PV.int .i64 0, D.o, D.o, D.o, D.o, D.o, D.o, D.o, D.o, D.o, D.o, D.o, D.o, D.o, D.o, D.o, D.o] ++ [PV.int .i64 0, .nils, .nils, .nils, .nils, .nils]) 0 (adc s.pe) = _
  exact spl_hd (by rw [adc_len h.pe]; rfl)
end
theorem candsG_snoc (v : Vr) (s : Si) (a : Ad) (r : Rt) : candsG v { s with lrn := s.lrn ++ [r] } a = candsG v s a ++ candsR v s.pe a [r] := by
  show candsF v s a ++ candsR v s.pe a (s.lrn ++ [r]) = _
  unfold candsG candsR
  rw [List.filter_append, List.flatMap_append, List.append_assoc]
theorem candsG_one (v : Vr) (s : Si) (a : Ad) (r : Rt) : candsG v ⟨s.pe, s.asn, [], [], [], [], [r]⟩ a = candsR v s.pe a [r] := rfl
theorem candsR_one (v : Vr) (pe a : Ad) (r : Rt) : (candsR v pe a [r]).length ≤ 1 := by
  unfold candsR
  refine Nat.le_trans (flatC_len a _) (List.length_filter_le _ _)
theorem selG_more (v : Vr) (s : Si) (a : Ad) (r : Rt) : ((selG v ⟨s.pe, s.asn, [], [], [], [], [r]⟩ a).2 = false ∧ selG v { s with lrn := s.lrn ++ [r] } a = selG v s a) ∨ ((selG v ⟨s.pe, s.asn, [], [], [], [], [r]⟩ a).2 = true ∧ (selG v { s with lrn := s.lrn ++ [r] } a).2 = true ∧ ((selG v { s with lrn := s.lrn ++ [r] } a).1 = (selG v ⟨s.pe, s.asn, [], [], [], [], [r]⟩ a).1 ∨ ((selG v s a).2 = true ∧ (selG v { s with lrn := s.lrn ++ [r] } a).1 = (selG v s a).1))) := by
  unfold selG
  rw [candsG_snoc, candsG_one]
  exact selL_more _ _ (candsR_one v s.pe a r)
theorem few_okC {r : Rt} (h : okArg r) (hf : few15 r = true) : okCRt r := by
  refine ⟨okArg_few h hf, h.ex8, ?_⟩
  unfold few15 few9 at hf
  simp only [Bool.and_eq_true, Bool.not_eq_true', List.any_eq_false, decide_eq_true_eq] at hf
  omega
theorem few19_lrn {s : Si} (h : ∀ r, r ∈ s.lrn → okArg r) (hf : few19 s = true) : ∀ r, r ∈ s.lrn → okCRt r := by
  intro r hr
  refine few_okC (h r hr) ?_
  unfold few19 at hf
  simp only [Bool.and_eq_true, Bool.not_eq_true', List.any_eq_false, decide_eq_true_eq] at hf
  have := hf.2.1 r (by rw [List.take_of_length_le (by omega)]; exact hr)
  simpa using this
open D in
def vb8_9 : VC :=
  .seq (.region [m 55 (.load (some 30) (t 4)), m 56 (.load (some 23) (t 15)), m 57 (.load (some 17) (t 6)), m 58 (.call false 26 [(t 55), (t 56), (t 57)]), m 54 (.mov (t 58)), m 59 (.extract 0 (t 54)), m 60 (.extract 1 (t 54)), m 16 (.alloc 10 [q, o, o, o, o, o, o, o, o, o, o, o, o, o, o, o, o, o, o, o, o, o, o, o, o, q, o, o, o, o, o, o, o, o]), e (.store 34 (t 16) (t 59)), m 17 (.mov (t 60))]) <|
  .seq (.region [m 62 (.load (some 30) (t 4)), m 63 (.field 0 (t 5)), m 64 (.load (some 17) (t 63)), m 65 (.field 17 (t 5)), m 66 (.load none (t 65)), m 67 (.load (some 132) (t 7)), m 68 (.buildSlice 11 132 1 [q, q, q, o, o, o, o, o, o, o, o, q, q, o, o, o, o, o, o, o, o, o, o, o, o, o, o, o, o, q, o, o, o, o, o, o, o, o, o, o, o, o, o, o, o, o, q, o, o, o, o, o, o, o, o, o, o, o, o, o, o, o, o, (.str []), o, o, o, o, o, o, o, o, q, o, o, o, o, o, o, o, o, o, o, o, o, o, o, o, o, q, q, q, o, o, o, o, o, o, o, o, o, o, o, o, o, o, o, o, q, .nils, q, q, q, o, o, o, o, o, o, o, o, o, o, o, o, o, o, o, o, .nils, .nils, .nils] [(0, (t 67))]), m 69 (.build [q, o, o, o, o, o, o, o, o, o, o, o, o, o, o, o, o, q, .nils, .nils, .nils, .nils, .nils] [(0, 17, (t 64)), (17, 1, (t 66)), (22, 1, (t 68))]), m 70 (.load (some 17) (t 6)), m 71 (.call false 26 [(t 62), (t 69), (t 70)]), m 61 (.mov (t 71)), m 72 (.extract 0 (t 61)), m 73 (.extract 1 (t 61)), m 18 (.alloc 12 [q, o, o, o, o, o, o, o, o, o, o, o, o, o, o, o, o, o, o, o, o, o, o, o, o, q, o, o, o, o, o, o, o, o]), e (.store 34 (t 18) (t 72)), m 19 (.mov (t 73))]) <|
  .seq (.seq (.region [m 74 (.mov (t 19)), m 75 (.un .not (t 74))]) <|
  .cond (t 75) (.seq (.region [m 76 (.mov (t 9)), m 77 (.mov (t 76)), g 78 77 true (.load (some 34) (t 13)), g 79 77 true (.load (some 34) (t 16)), g 80 77 true (.eqAgg [(.i .i64), (.i .u8), (.i .u8), (.i .u8), (.i .u8), (.i .u8), (.i .u8), (.i .u8), (.i .u8), (.i .u8), (.i .u8), (.i .u8), (.i .u8), (.i .u8), (.i .u8), (.i .u8), (.i .u8), (.i .u8), (.i .u8), (.i .u8), (.i .u8), (.i .u8), (.i .u8), (.i .u8), (.i .u8), (.i .i64), (.i .u8), (.i .u8), (.i .u8), (.i .u8), (.i .u8), (.i .u8), (.i .u8), (.i .u8)] false (t 78) (t 79)), m 81 (.pick (t 77) (t 80) (.c (.bool false))), m 82 (.mov (t 81)), g 83 82 true (.mov (t 14)), g 84 82 true (.mov (t 17)), g 85 82 true (.bin .eql .bool (t 83) (t 84)), m 86 (.pick (t 82) (t 85) (.c (.bool false))), m 8 (.mov (t 86))]) <|
  .ret) (.skip)) <|
  .seq (.region [m 87 (.mov (t 9)), m 88 (.mov (t 87)), g 89 88 true (.mov (t 17)), m 90 (.pick (t 88) (t 89) (.c (.bool false))), m 91 (.mov (t 90)), g 92 91 true (.load (some 34) (t 16)), g 93 91 true (.load (some 34) (t 18)), g 94 91 true (.eqAgg [(.i .i64), (.i .u8), (.i .u8), (.i .u8), (.i .u8), (.i .u8), (.i .u8), (.i .u8), (.i .u8), (.i .u8), (.i .u8), (.i .u8), (.i .u8), (.i .u8), (.i .u8), (.i .u8), (.i .u8), (.i .u8), (.i .u8), (.i .u8), (.i .u8), (.i .u8), (.i .u8), (.i .u8), (.i .u8), (.i .i64), (.i .u8), (.i .u8), (.i .u8), (.i .u8), (.i .u8), (.i .u8), (.i .u8), (.i .u8)] false (t 92) (t 93)), g 95 91 true (.mov (t 94)), g 96 95 false (.mov (t 14)), g 97 95 false (.mov (t 96)), g 98 97 true (.load (some 34) (t 16)), g 99 97 true (.load (some 34) (t 13)), g 100 97 true (.eqAgg [(.i .i64), (.i .u8), (.i .u8), (.i .u8), (.i .u8), (.i .u8), (.i .u8), (.i .u8), (.i .u8), (.i .u8), (.i .u8), (.i .u8), (.i .u8), (.i .u8), (.i .u8), (.i .u8), (.i .u8), (.i .u8), (.i .u8), (.i .u8), (.i .u8), (.i .u8), (.i .u8), (.i .u8), (.i .u8), (.i .i64), (.i .u8), (.i .u8), (.i .u8), (.i .u8), (.i .u8), (.i .u8), (.i .u8), (.i .u8)] false (t 98) (t 99)), g 101 95 false (.pick (t 97) (t 100) (.c (.bool false))), g 102 91 true (.pick (t 95) (.c (.bool true)) (t 101)), m 103 (.pick (t 91) (t 102) (.c (.bool false))), m 8 (.mov (t 103))]) <|
  .ret
open D in
theorem vb8_eq : vb8 =
  (.seq (.region [m 4 (.box 0 (t 0)), m 5 (.box 1 (t 1)), m 6 (.box 2 (t 2)), m 7 (.box 3 (t 3)), m 8 (.mov (.c (.bool false)))]) <|
  .seq (.region [m 20 (.call false 24 []), m 9 (.mov (t 20))]) <|
  .seq (.region [m 21 (.load (some 30) (t 4)), m 22 (.call false 21 [(t 21)]), m 10 (.mov (t 22))]) <|
  .seq (.region [m 23 (.load (some 23) (t 5)), m 24 (.call false 25 [(t 23)]), m 11 (.mov (t 24))]) <|
  .seq (.region [m 25 (.load (some 132) (t 7)), m 26 (.call false 12 [(t 25)]), m 12 (.mov (t 26))]) <|
  .seq (.seq (.region [m 27 (.mov (t 10)), m 28 (.un .not (t 27)), m 29 (.mov (t 28)), g 30 29 false (.mov (t 11)), g 31 29 false (.un .not (t 30)), m 32 (.pick (t 29) (.c (.bool true)) (t 31)), m 33 (.mov (t 32)), g 34 33 false (.mov (t 12)), g 35 33 false (.un .not (t 34)), m 36 (.pick (t 33) (.c (.bool true)) (t 35))]) <|
  .cond (t 36) (.seq (.region [m 37 (.mov (t 9)), m 8 (.mov (t 37))]) <|
  .ret) (.skip)) <|
  .seq (.region [m 39 (.load (some 30) (t 4)), m 40 (.load (some 23) (t 5)), m 41 (.load (some 17) (t 6)), m 42 (.call false 26 [(t 39), (t 40), (t 41)]), m 38 (.mov (t 42)), m 43 (.extract 0 (t 38)), m 44 (.extract 1 (t 38)), m 13 (.alloc 4 [q, o, o, o, o, o, o, o, o, o, o, o, o, o, o, o, o, o, o, o, o, o, o, o, o, q, o, o, o, o, o, o, o, o]), e (.store 34 (t 13) (t 43)), m 14 (.mov (t 44))]) <|
  .seq (.region [m 45 (.load (some 23) (t 5)), m 15 (.alloc 5 [q, o, o, o, o, o, o, o, o, o, o, o, o, o, o, o, o, q, .nils, .nils, .nils, .nils, .nils]), e (.store 23 (t 15) (t 45))]) <|
  .seq (.dreg [(m 46 (.buildSlice 6 132 0 [q, q, q, o, o, o, o, o, o, o, o, q, q, o, o, o, o, o, o, o, o, o, o, o, o, o, o, o, o, q, o, o, o, o, o, o, o, o, o, o, o, o, o, o, o, o, q, o, o, o, o, o, o, o, o, o, o, o, o, o, o, o, o, (.str []), o, o, o, o, o, o, o, o, q, o, o, o, o, o, o, o, o, o, o, o, o, o, o, o, o, q, q, q, o, o, o, o, o, o, o, o, o, o, o, o, o, o, o, o, q, .nils, q, q, q, o, o, o, o, o, o, o, o, o, o, o, o, o, o, o, o, .nils, .nils, .nils] []), []), (m 47 (.field 22 (t 5)), []), (m 48 (.load none (t 47)), [1]), (m 49 (.append 7 132 344 (t 46) (t 48)), [0, 2]), (m 50 (.load (some 132) (t 7)), []), (m 51 (.buildSlice 8 132 1 [q, q, q, o, o, o, o, o, o, o, o, q, q, o, o, o, o, o, o, o, o, o, o, o, o, o, o, o, o, q, o, o, o, o, o, o, o, o, o, o, o, o, o, o, o, o, q, o, o, o, o, o, o, o, o, o, o, o, o, o, o, o, o, (.str []), o, o, o, o, o, o, o, o, q, o, o, o, o, o, o, o, o, o, o, o, o, o, o, o, o, q, q, q, o, o, o, o, o, o, o, o, o, o, o, o, o, o, o, o, q, .nils, q, q, q, o, o, o, o, o, o, o, o, o, o, o, o, o, o, o, o, .nils, .nils, .nils] [(0, (t 50))]), [4]), (m 52 (.append 9 132 344 (t 49) (t 51)), [3, 5, 3]), (m 53 (.field 22 (t 15)), [0, 1, 2, 3, 4, 5, 6]), (e (.store 1 (t 53) (t 52)), [7, 6, 6, 0, 1, 2, 3, 4, 5, 6])] [(2, 1), (2, 2), (2, 4), (0, 0), (0, 3), (0, 5), (0, 6), (1, 7), (0, 8)] [0, 0, 2, 7, 0, 16, 63, 127, 255]) <|
  vb8_9) := rfl
set_option maxHeartbeats 32000000 in
theorem tEnd8 {v : Vr} {s : Si} {a : Ad} {r : Rt} {σ : VHeap} {Post : KP} {E : Env} {o8 : VObj} {g8 : Nat} (hv : okVrf v) (hs : okSi s) (hl : ∀ x, x ∈ s.locs → okLc x) (hr : okCRt r) (ha : okD a) (hB : belH σ.length σ) (e9 : E 9 = .bool true) (few : v.imp.length ≤ 1000000 ∧ s.locs.length ≤ 1000000 ∧ s.lrn.length ≤ 60) (h : ∀ r, r ∈ s.lrn → okCRt r) (e14 : E 14 = .bool (selG v s a).2)
    (e4 : E 4 = .ptr (σ.length + 0) 1 0) (e5 : E 5 = .ptr (σ.length + 1) 1 0) (e6 : E 6 = .ptr (σ.length + 2) 1 0) (e7 : E 7 = .ptr (σ.length + 3) 1 0) (e13 : E 13 = .ptr (σ.length + 4) 1 0) (e15 : E 15 = .ptr (σ.length + 5) 1 0) (hk : Post (.bool true) σ) :
    vrun Tryz.prog σ.length vb8_9 E (σ ++ [(1, VObj.box (vrC v) false), (1, .box (siC s) false), (1, .box (adc a) false), (1, .box (rtC r) false), (1, .box (usC (selG v s a).1) false), (1, .box (siO s (.row (σ.length + 6) 3)) false), (3, .row 132 ((s.lrn ++ [r]).map rtC) false), (0, .dead), (g8, o8), (0, .dead), (0, .dead), (0, .dead), (0, .dead)]) (vend vf8 (TrimP σ.length Post)) := by
  have vs := vrC_sc (x := v)
  have vl := vrC_len hv.ok
  have vc := vrC_all hv.ok
  have ss := siC_sc (x := s)
  have sl := siC_len hs
  have sa := siC_all hs
  have sg1 := siC_gpe hs
  have sg2 := siC_gasn hs
  have sg4 := siC_glrn hs
  have sc := adc_sc (a := a)
  have ln := adc_len ha
  have c0 := adc_all ha
  have pl := adc_len hs.pe
  have psc := adc_sc (a := s.pe)
  have xs := rtC_sc (x := r)
  have xl := rtC_len hr.rib.ok
  have xc := rtC_all hr.rib.ok
  have r1 : RowOk 132 [rtC r] := fun e he => by rw [List.mem_singleton.1 he]; exact ⟨xl, xs⟩
  obtain ⟨li, hn, hn2⟩ := few
  have ol := siO_len (p := .row (σ.length + 6) 3) hs
  have oa := siO_all (p := .row (σ.length + 6) 3) hs
  have osc := siO_sc (s := s) (p := .row (σ.length + 6) 3) rfl
  obtain ⟨f1, f2, f3⟩ := siX_fill (p := .row (σ.length + 11) 1) hs
  have hsO : okSi { s with lrn := s.lrn ++ [r] } := ⟨hs.pe⟩
  have hsX : okSi ⟨s.pe, s.asn, [], [], [], [], [r]⟩ := ⟨hs.pe⟩
  have hO : ∀ x, x ∈ s.lrn ++ [r] → okCRt x := fun x hx => by
    rcases List.mem_append.1 hx with hx | hx
    · exact h x hx
    · rw [List.mem_singleton.1 hx]; exact hr
  have hX : ∀ x, x ∈ [r] → okCRt x := fun x hx => by rw [List.mem_singleton.1 hx]; exact hr
  have uO := uSelect (s := { s with lrn := s.lrn ++ [r] }) hv hsO ha hl hn hO li (by show (s.lrn ++ [r]).length ≤ _; rw [List.length_append, List.length_singleton]; omega)
  have uX := uSelect (s := ⟨s.pe, s.asn, [], [], [], [], [r]⟩) hv hsX ha (fun x hx => by cases hx) (by show 0 ≤ _; omega) hX li (by show 1 ≤ _; omega)
  have okU := selG_ok (a := a) hv.ok hs h
  have okO := selG_ok (a := a) hv.ok hsO hO
  have okX := selG_ok (a := a) hv.ok hsX hX
  have hm := selG_more v s a r
  generalize hGO : selG v { s with lrn := s.lrn ++ [r] } a = O at *
  generalize hGX : selG v ⟨s.pe, s.asn, [], [], [], [], [r]⟩ a = X at *
  generalize hGU : selG v s a = D at *
  obtain ⟨u1, u2⟩ := D
  obtain ⟨w1, w2⟩ := O
  obtain ⟨x1, x2⟩ := X
  dsimp only at *
  have ul := usC_len okU
  have uc := usC_all okU
  have us := usC_sc (x := u1)
  have wl := usC_len okO
  have wc := usC_all okO
  have ws := usC_sc (x := w1)
  have wd := usC_any okO (cs := [PV.int .i64 0, D.o, D.o, D.o, D.o, D.o, D.o, D.o, D.o, D.o, D.o, D.o, D.o, D.o, D.o, D.o, D.o, D.o, D.o, D.o, D.o, D.o, D.o, D.o, D.o, .int .i64 0, D.o, D.o, D.o, D.o, D.o, D.o, D.o, D.o]) rfl
  have tl := usC_len okX
  have tc := usC_all okX
  have ts := usC_sc (x := x1)
  have td := usC_any okX (cs := [PV.int .i64 0, D.o, D.o, D.o, D.o, D.o, D.o, D.o, D.o, D.o, D.o, D.o, D.o, D.o, D.o, D.o, D.o, D.o, D.o, D.o, D.o, D.o, D.o, D.o, D.o, .int .i64 0, D.o, D.o, D.o, D.o, D.o, D.o, D.o, D.o]) rfl
  have q1 := eqC_us2 okU okO
  have q2 := eqC_us2 okO okX
  have q3 := eqC_us2 okO okU
  unfold vb8_9
  rcases hm with ⟨rfl, hm⟩ | ⟨rfl, rfl, hm⟩
  · obtain ⟨rfl, rfl⟩ := Prod.mk.inj hm
    rw [decide_eq_true rfl] at q1 q3
    cases w2 with
    | true =>
      refine W ?_
      refine cu uO ?_ (by exact z_hn) (by exact z_ma) (InlA.pl inferInstance (InlA.agg (siO_inl rfl) (.pl inferInstance (.nil _)))) rfl
      refine W ?_
      refine cu uX ?_ (by exact z_hn) (by exact z_ma) (InlA.pl inferInstance (InlA.agg (siX_inl (l := [r]) rfl) (.pl inferInstance (.nil _)))) rfl
      refine W ?_
      exact hk
    | false =>
      refine W ?_
      refine cu uO ?_ (by exact z_hn) (by exact z_ma) (InlA.pl inferInstance (InlA.agg (siO_inl rfl) (.pl inferInstance (.nil _)))) rfl
      refine W ?_
      refine cu uX ?_ (by exact z_hn) (by exact z_ma) (InlA.pl inferInstance (InlA.agg (siX_inl (l := [r]) rfl) (.pl inferInstance (.nil _)))) rfl
      refine W ?_
      exact hk
  · by_cases hc : w1 = x1
    · rw [decide_eq_true hc] at q2
      refine W ?_
      refine cu uO ?_ (by exact z_hn) (by exact z_ma) (InlA.pl inferInstance (InlA.agg (siO_inl rfl) (.pl inferInstance (.nil _)))) rfl
      refine W ?_
      refine cu uX ?_ (by exact z_hn) (by exact z_ma) (InlA.pl inferInstance (InlA.agg (siX_inl (l := [r]) rfl) (.pl inferInstance (.nil _)))) rfl
      refine W ?_
      exact hk
    · rw [decide_eq_false hc] at q2
      rcases hm with hm | ⟨rfl, rfl⟩
      · exact absurd hm hc
      · rw [decide_eq_true rfl] at q3
        refine W ?_
        refine cu uO ?_ (by exact z_hn) (by exact z_ma) (InlA.pl inferInstance (InlA.agg (siO_inl rfl) (.pl inferInstance (.nil _)))) rfl
        refine W ?_
        refine cu uX ?_ (by exact z_hn) (by exact z_ma) (InlA.pl inferInstance (InlA.agg (siX_inl (l := [r]) rfl) (.pl inferInstance (.nil _)))) rfl
        refine W ?_
        exact hk
set_option maxHeartbeats 32000000 in
theorem tUmhMore {v : Vr} {s : Si} {a : Ad} {r : Rt} (hv : okVrf v) (hs : okSi s) (ha : okD a) (hl : ∀ x, x ∈ s.locs → okLc x) (hvs : ∀ x, x ∈ s.vrfs → okVr x) (hlr : ∀ r, r ∈ s.lrn → okArg r) (har : okArg r) (sm : U Tryz.prog 24 [] (.bool true)) : U Tryz.prog 8 [.agg (vrC v), .agg (siC s), .agg (adc a), .agg (rtC r)] (.bool true) := by
  intro σ Post hk
  have vs := vrC_sc (x := v)
  have vl := vrC_len hv.ok
  have vc := vrC_all hv.ok
  have ss := siC_sc (x := s)
  have sl := siC_len hs
  have sa := siC_all hs
  have sg1 := siC_gpe hs
  have sg2 := siC_gasn hs
  have sg4 := siC_glrn hs
  have sc := adc_sc (a := a)
  have ln := adc_len ha
  have c0 := adc_all ha
  have pl := adc_len hs.pe
  have psc := adc_sc (a := s.pe)
  have xs := rtC_sc (x := r)
  have xl := rtC_len har.ok
  have xc := rtC_all har.ok
  have r1 : RowOk 132 [rtC r] := fun e he => by rw [List.mem_singleton.1 he]; exact ⟨xl, xs⟩
  refine T8 fun hB hA => ?_
  rw [vb8_eq]
  refine W ?_
  refine cu sm ?_
  refine W ?_
  refine cu (uFew18 hv.ok) ?_
  refine W ?_
  refine cu (uFew19 hs hvs hlr) ?_
  refine W ?_
  refine cu (uFew15 har.ok har.tn har.l1 har.l2 har.l3) ?_
  cases hf1 : few18 v with
  | false => refine W ?_; exact hk
  | true =>
  cases hf2 : few19 s with
  | false => refine W ?_; exact hk
  | true =>
  cases hf3 : few15 r with
  | false => refine W ?_; exact hk
  | true =>
  have hr := few_okC har hf3
  have sh := few19_lrn hlr hf2
  have few : v.imp.length ≤ 1000000 ∧ s.locs.length ≤ 1000000 ∧ s.lrn.length ≤ 60 := by
    unfold few18 at hf1
    unfold few19 at hf2
    simp only [Bool.and_eq_true, decide_eq_true_eq] at hf1 hf2
    omega
  have okU := selG_ok (a := a) hv.ok hs sh
  have ul := usC_len okU
  have uc := usC_all okU
  have us := usC_sc (x := (selG v s a).1)
  have ud := usC_any okU (cs := [PV.int .i64 0, D.o, D.o, D.o, D.o, D.o, D.o, D.o, D.o, D.o, D.o, D.o, D.o, D.o, D.o, D.o, D.o, D.o, D.o, D.o, D.o, D.o, D.o, D.o, D.o, .int .i64 0, D.o, D.o, D.o, D.o, D.o, D.o, D.o, D.o]) rfl
  have b1 : (s.lrn.map rtC).length = s.lrn.length := List.length_map _
  have r0 : RowOk 132 (s.lrn.map rtC) := fun e he => by obtain ⟨x, hx, rfl⟩ := List.mem_map.1 he; exact ⟨rtC_len (hlr x hx).ok, rtC_sc⟩
  have n1 := siO_set (p := .row (σ.length + 6) 3) hs
  have sd := siC_any hs (cs := [PV.int .i64 0, D.o, D.o, D.o, D.o, D.o, D.o, D.o, D.o, D.o, D.o, D.o, D.o, D.o, D.o, D.o, D.o, .int .i64 0, .nils, .nils, .nils, .nils, .nils]) rfl
  refine W ?_
  refine cu (uSelect hv hs ha hl few.2.1 sh few.1 (by omega)) ?_
  refine Wo ?_
  refine drTree (fun h => vGet h (σ.length + 1) 1 = some (.box (siC s) false) ∧ vGet h (σ.length + 3) 1 = some (.box (rtC r) false)) (.br [(2, 1), (2, 2), (2, 4)] 0 (.br [] 3 (.br [] 5 (.br [] 6 (.br [(1, 7)] 8 (.fin []) .stop) .stop) .stop) (.br [] 5 (.br [] 3 (.br [] 6 (.br [(1, 7)] 8 (.fin []) .stop) .stop) .stop) .stop)) (.br [] 5 (.br [] 0 (.br [] 3 (.br [] 6 (.br [(1, 7)] 8 (.fin []) .stop) .stop) .stop) .stop) .stop)) rfl (by kernel_rfl) ⟨lget rfl rfl, lget rfl rfl⟩ ?_
  refine vt_br (by exact z_ol) ?_
  (repeat (refine sv2n (fun hh hJ => by obtain ⟨hJ1, hJ2⟩ := hJ; exact z_ya) ?_))
  refine sv_nil ?_
  refine va_br rfl ?_ ?_
  · skip
    refine est (by exact z_ea) ?_
    refine st_end ⟨⟨lget rfl rfl, lget rfl rfl⟩, ?_⟩
    refine vt_br (by exact z_ol) ?_
    refine sv_nil ?_
    refine va_br rfl ?_ ?_
    · skip
      refine est (by exact z_ea) ?_
      refine st_end ⟨⟨lget rfl rfl, lget rfl rfl⟩, ?_⟩
      refine vt_br (by exact z_ol) ?_
      refine sv_nil ?_
      refine va_br rfl ?_ ?_
      · skip
        refine est (by exact z_ea) ?_
        refine st_end ⟨⟨lget rfl rfl, lget rfl rfl⟩, ?_⟩
        refine vt_br (by exact z_ol) ?_
        refine sv_nil ?_
        refine va_br rfl ?_ ?_
        · skip
          refine est (by exact z_ea) ?_
          refine st_end ⟨⟨lget rfl rfl, lget rfl rfl⟩, ?_⟩
          refine vt_br (by exact z_ol) ?_
          refine Wo ?_
          refine va_br rfl ?_ ?_
          · skip
            refine est (by exact z_ea) ?_
            refine st_end ⟨⟨lget rfl rfl, lget rfl rfl⟩, ?_⟩
            refine vt_fin (by exact z_ol) ?_
            refine Wo ?_
            exact tEnd8 hv hs hl hr ha hB rfl few sh rfl rfl rfl rfl rfl rfl rfl hk
          · skip
            exact va_stop
        · skip
          exact va_stop
      · skip
        exact va_stop
    · skip
      refine va_br rfl ?_ ?_
      · skip
        refine est (by exact z_ea) ?_
        refine st_end ⟨⟨lget rfl rfl, lget rfl rfl⟩, ?_⟩
        refine vt_br (by exact z_ol) ?_
        refine sv_nil ?_
        refine va_br rfl ?_ ?_
        · skip
          refine est (by exact z_ea) ?_
          refine st_end ⟨⟨lget rfl rfl, lget rfl rfl⟩, ?_⟩
          refine vt_br (by exact z_ol) ?_
          refine sv_nil ?_
          refine va_br rfl ?_ ?_
          · skip
            refine est (by exact z_ea) ?_
            refine st_end ⟨⟨lget rfl rfl, lget rfl rfl⟩, ?_⟩
            refine vt_br (by exact z_ol) ?_
            refine Wo ?_
            refine va_br rfl ?_ ?_
            · skip
              refine est (by exact z_ea) ?_
              refine st_end ⟨⟨lget rfl rfl, lget rfl rfl⟩, ?_⟩
              refine vt_fin (by exact z_ol) ?_
              refine Wo ?_
              exact tEnd8 hv hs hl hr ha hB rfl few sh rfl rfl rfl rfl rfl rfl rfl hk
            · skip
              exact va_stop
          · skip
            exact va_stop
        · skip
          exact va_stop
      · skip
        exact va_stop
  · skip
    refine va_br rfl ?_ ?_
    · skip
      refine est (by exact z_ea) ?_
      refine st_end ⟨⟨lget rfl rfl, lget rfl rfl⟩, ?_⟩
      refine vt_br (by exact z_ol) ?_
      refine sv_nil ?_
      refine va_br rfl ?_ ?_
      · skip
        refine est (by exact z_ea) ?_
        refine st_end ⟨⟨lget rfl rfl, lget rfl rfl⟩, ?_⟩
        refine vt_br (by exact z_ol) ?_
        refine sv_nil ?_
        refine va_br rfl ?_ ?_
        · skip
          refine est (by exact z_ea) ?_
          refine st_end ⟨⟨lget rfl rfl, lget rfl rfl⟩, ?_⟩
          refine vt_br (by exact z_ol) ?_
          refine sv_nil ?_
          refine va_br rfl ?_ ?_
          · skip
            refine est (by exact z_ea) ?_
            refine st_end ⟨⟨lget rfl rfl, lget rfl rfl⟩, ?_⟩
            refine vt_br (by exact z_ol) ?_
            refine Wo ?_
            refine va_br rfl ?_ ?_
            · skip
              refine est (by exact z_ea) ?_
              refine st_end ⟨⟨lget rfl rfl, lget rfl rfl⟩, ?_⟩
              refine vt_fin (by exact z_ol) ?_
              refine Wo ?_
              exact tEnd8 hv hs hl hr ha hB rfl few sh rfl rfl rfl rfl rfl rfl rfl hk
            · skip
              exact va_stop
          · skip
            exact va_stop
        · skip
          exact va_stop
      · skip
        exact va_stop
    · skip
      exact va_stop
end Go.Proofs.YtjhmobdncjhcnaaGreatDoor
