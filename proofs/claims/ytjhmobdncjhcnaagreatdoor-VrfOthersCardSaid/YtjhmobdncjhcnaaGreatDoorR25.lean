/- The law VrfOthers as a triple. -/
import Derived.Test.YtjhmobdncjhcnaaGreatDoorR24
namespace Go.Proofs.YtjhmobdncjhcnaaGreatDoor
open Go Go.V
set_option maxRecDepth 10000
set_option linter.unusedVariables false
attribute [local irreducible] vBuild vCallV
theorem findF_ok {l : List Vr} {s : List UInt8} (ho : ∀ v, v ∈ l → okVr v) : okVr (findF l s).1 := by
  unfold findF
  split
  · exact vr0_ok
  · cases h : l[(idxF (fun o : Vr => decide (o.name = s)) l).toNat]? with
    | none => exact vr0_ok
    | some w => exact ho w (List.mem_of_getElem? h)
set_option maxHeartbeats 16000000 in
theorem tVrfOthers {l : List Vr} {v : Vr} (ho : ∀ v, v ∈ l → okVrf v) (hv : okVrf v) (sm : U Tryz.prog 18 [] (.bool true)) : U Tryz.prog 7 [.sl (l.map vrC), .agg (vrC v)] (.bool true) := by
  intro σ Post hk
  have b1 : (l.map vrC).length = l.length := List.length_map _
  have ov := hv.ok
  have sc := vrC_sc (x := v)
  have ln := vrC_len ov
  have c0 := vrC_all ov
  have g1 := vrC_gname ov
  have g2 := vrC_gnum ov
  have g3 := vrC_grd ov
  have lr : (u8c v.rd).length = 8 := u8c_len8 ov.rd
  have r1 : RowOk 30 (l.map vrC) := fun e he => by obtain ⟨x, hx, rfl⟩ := List.mem_map.1 he; exact ⟨vrC_len (ho x hx).ok, vrC_sc⟩
  have r2 : RowOk 30 [vrC v] := fun e he => by rw [List.mem_singleton.1 he]; exact ⟨ln, sc⟩
  refine T7 fun hB hA => ?_
  refine W ?_
  refine cu sm ?_
  refine W ?_
  refine cu (uFew18 ov) ?_
  by_cases h10 : 10 < l.length
  · refine W ?_
    exact hk
  cases hf : few18 v with
  | false =>
    refine W ?_
    exact hk
  | true =>
  refine W ?_
  refine cu (uRights ho (by omega)) ?_
  cases hr : rightsF l with
  | false =>
    refine W ?_
    exact hk
  | true =>
  refine W ?_
  refine lp (fun j e s => ∃ i : Nat, i + j = l.length ∧ e 8 = .int .i64 i ∧ e 7 = .bool (!((l.take i).any fun o => twF o v)) ∧ s = σ ++ [(1, VObj.box (vrC v) false), (0, .dead), (0, .dead), (0, .dead), (0, .dead), (0, .dead)]) l.length ⟨0, by simp, rfl, rfl, rfl⟩ ?_
  rintro j u _ ⟨i, hi, e8, e7, rfl⟩
  by_cases h5 : i < l.length
  · obtain ⟨o, hx⟩ : ∃ x, l[i]? = some x := ⟨_, List.getElem?_eq_getElem h5⟩
    have hg : (l.map vrC)[(i : Int).toNat]? = some (vrC o) := by rw [Int.toNat_natCast, List.getElem?_map, hx]; rfl
    have hm := List.mem_of_getElem? hx
    have oo := (ho o hm).ok
    have ol := vrC_len oo
    have og1 := vrC_gname oo
    have og2 := vrC_gnum oo
    have og3 := vrC_grd oo
    have ol8 : (u8c o.rd).length = 8 := u8c_len8 oo.rd
    have q0 : eqCells [.i .u8, .i .u8, .i .u8, .i .u8, .i .u8, .i .u8, .i .u8, .i .u8] (u8c o.rd) (u8c v.rd) = some (decide (o.rd = v.rd)) := by have q := eqC_u8 o.rd v.rd (by rw [oo.rd, ov.rd]); rw [oo.rd] at q; exact q.trans (by rw [Bool.beq_eq_decide_eq])
    cases ha : (l.take i).any fun o => twF o v with
    | true =>
      rw [ha] at e7
      refine W ?_
      exact ⟨j - 1, by omega, i + 1, by omega, rfl, (by show PV.bool false = _; rw [take_snoc hx, List.any_append, ha]; simp [twF, *]), rfl⟩
    | false =>
      rw [ha] at e7
      by_cases h1 : o.name = v.name
      · have sb : sbin .neq o.name v.name = some (.bool false) := by rw [sb_neq]; simp [h1]
        refine W ?_
        exact ⟨j - 1, by omega, i + 1, by omega, rfl, (by show PV.bool false = _; rw [take_snoc hx, List.any_append, ha]; simp [twF, *]), rfl⟩
      · have sb : sbin .neq o.name v.name = some (.bool true) := by rw [sb_neq]; simp [h1]
        by_cases h2 : o.num = v.num
        · refine W ?_
          exact ⟨j - 1, by omega, i + 1, by omega, rfl, (by show PV.bool false = _; rw [take_snoc hx, List.any_append, ha]; simp [twF, *]), rfl⟩
        · by_cases h3 : o.rd = v.rd
          · rw [decide_eq_true h3] at q0
            refine W ?_
            exact ⟨j - 1, by omega, i + 1, by omega, rfl, (by show PV.bool false = _; rw [take_snoc hx, List.any_append, ha]; simp [twF, *]), rfl⟩
          · rw [decide_eq_false h3] at q0
            refine W ?_
            exact ⟨j - 1, by omega, i + 1, by omega, rfl, (by show PV.bool true = _; rw [take_snoc hx, List.any_append, ha]; simp [twF, *]), rfl⟩
  · have h9 : l.take i = l := List.take_of_length_le (by omega)
    rw [h9] at e7
    have hfew : ∀ x, x ∈ l ++ [v] → fewV x := by
      intro x hx
      rcases List.mem_append.1 hx with hx | hx
      · exact right_few ho hr x hx
      · obtain rfl := List.mem_singleton.1 hx
        unfold few18 at hf
        simp only [Bool.and_eq_true, decide_eq_true_eq] at hf
        exact ⟨hv, by omega, by omega, by omega⟩
    have hll : (l ++ [v]).length ≤ 4611686018427387904 := by rw [List.length_append, List.length_singleton]; omega
    have ow := findF_ok (l := l ++ [v]) (s := v.name) fun x hx => (hfew x hx).ok.ok
    have hw : rightsF (l ++ [v]) = true → findF (l ++ [v]) v.name = (v, true) := find_snoc
    have hs := rightsF_snoc (v := v) hr
    have uf := uFind (s := v.name) hfew hll
    have ur := uRights (fun x hx => (hfew x hx).ok) hll
    generalize hF : findF (l ++ [v]) v.name = F at *
    obtain ⟨w, b⟩ := F
    dsimp only at uf ow hw
    have wc := vrC_sc (x := w)
    have wl := vrC_len ow
    have w0 := vrC_all ow
    have w3 := vrC_grd ow
    have wl8 : (u8c w.rd).length = 8 := u8c_len8 ow.rd
    have d0 := vrC_any ow (cs := [PV.str [], .int .i64 0, D.o, D.o, D.o, D.o, D.o, D.o, D.o, D.o, .nils, .nils, .int .i64 0, D.o, D.o, D.o, D.o, D.o, D.o, D.o, D.o, D.o, D.o, D.o, D.o, D.o, D.o, D.o, D.o, .nils]) rfl
    have q0 : eqCells [.i .u8, .i .u8, .i .u8, .i .u8, .i .u8, .i .u8, .i .u8, .i .u8] (u8c w.rd) (u8c v.rd) = some (decide (w.rd = v.rd)) := by have q := eqC_u8 w.rd v.rd (by rw [ow.rd, ov.rd]); rw [ow.rd] at q; exact q.trans (by rw [Bool.beq_eq_decide_eq])
    refine Wo ?_
    refine drTree (fun h => vGet h (σ.length + 0) 1 = some (.box (vrC v) false)) (.br [(2, 1), (2, 3)] 0 (.br [] 2 (.br [] 4 (.br [] 5 (.fin [(2, 6)]) .stop) .stop) (.br [] 4 (.br [] 2 (.br [] 5 (.fin [(2, 6)]) .stop) .stop) .stop)) (.br [] 4 (.br [] 0 (.br [] 2 (.br [] 5 (.fin [(2, 6)]) .stop) .stop) .stop) .stop)) rfl (by kernel_rfl) (lget rfl rfl) ?_
    refine vt_br (by exact z_ol) ?_
    refine Wo ?_
    refine va_br rfl ?_ ?_
    · skip
      refine est (by exact z_ea) ?_
      refine st_end ⟨lget rfl rfl, ?_⟩
      refine vt_br (by exact z_ol) ?_
      refine sv_nil ?_
      refine va_br rfl ?_ ?_
      · skip
        refine est (by exact z_ea) ?_
        refine st_end ⟨lget rfl rfl, ?_⟩
        refine vt_br (by exact z_ol) ?_
        refine sv_nil ?_
        refine va_br rfl ?_ ?_
        · skip
          refine est (by exact z_ea) ?_
          refine st_end ⟨lget rfl rfl, ?_⟩
          refine vt_br (by exact z_ol) ?_
          refine sv_nil ?_
          refine va_br rfl ?_ ?_
          · skip
            refine est (by exact z_ea) ?_
            refine st_end ⟨lget rfl rfl, ?_⟩
            refine vt_fin (by exact z_ol) ?_
            refine Wo ?_
            refine W ?_
            refine cu uf ?_
            refine W ?_
            refine cu ur ?_
            cases hR : rightsF (l ++ [v]) with
            | true =>
              rw [hR] at hs
              have hs := hs.symm
              simp only [Bool.and_eq_true, Bool.not_eq_true', decide_eq_true_eq] at hs
              obtain ⟨r1, r2, r3⟩ := hs
              rw [r2] at e7
              obtain ⟨rfl, rfl⟩ := Prod.mk.inj (hw hR)
              rw [decide_eq_true rfl] at q0
              refine W ?_
              refine cu (uVrR hv) ?_
              rw [r1]
              refine W ?_
              exact hk
            | false =>
              rw [hR] at hs
              refine W ?_
              refine cu (uVrR hv) ?_
              cases r1 : vrR v with
              | false =>
                refine W ?_
                exact hk
              | true =>
                cases r2 : l.any fun o => twF o v with
                | true =>
                  rw [r2] at e7
                  refine W ?_
                  exact hk
                | false =>
                  rw [r1, r2] at hs
                  rw [r2] at e7
                  have r3 : ¬ l.length < 4 := by simpa using hs
                  refine W ?_
                  exact hk
          · skip
            exact va_stop
        · skip
          exact va_stop
      · skip
        refine va_br rfl ?_ ?_
        · skip
          refine est (by exact z_ea) ?_
          refine st_end ⟨lget rfl rfl, ?_⟩
          refine vt_br (by exact z_ol) ?_
          refine sv_nil ?_
          refine va_br rfl ?_ ?_
          · skip
            refine est (by exact z_ea) ?_
            refine st_end ⟨lget rfl rfl, ?_⟩
            refine vt_br (by exact z_ol) ?_
            refine sv_nil ?_
            refine va_br rfl ?_ ?_
            · skip
              refine est (by exact z_ea) ?_
              refine st_end ⟨lget rfl rfl, ?_⟩
              refine vt_fin (by exact z_ol) ?_
              refine Wo ?_
              refine W ?_
              refine cu uf ?_
              refine W ?_
              refine cu ur ?_
              cases hR : rightsF (l ++ [v]) with
              | true =>
                rw [hR] at hs
                have hs := hs.symm
                simp only [Bool.and_eq_true, Bool.not_eq_true', decide_eq_true_eq] at hs
                obtain ⟨r1, r2, r3⟩ := hs
                rw [r2] at e7
                obtain ⟨rfl, rfl⟩ := Prod.mk.inj (hw hR)
                rw [decide_eq_true rfl] at q0
                refine W ?_
                refine cu (uVrR hv) ?_
                rw [r1]
                refine W ?_
                exact hk
              | false =>
                rw [hR] at hs
                refine W ?_
                refine cu (uVrR hv) ?_
                cases r1 : vrR v with
                | false =>
                  refine W ?_
                  exact hk
                | true =>
                  cases r2 : l.any fun o => twF o v with
                  | true =>
                    rw [r2] at e7
                    refine W ?_
                    exact hk
                  | false =>
                    rw [r1, r2] at hs
                    rw [r2] at e7
                    have r3 : ¬ l.length < 4 := by simpa using hs
                    refine W ?_
                    exact hk
            · skip
              exact va_stop
          · skip
            exact va_stop
        · skip
          exact va_stop
    · skip
      refine va_br rfl ?_ ?_
      · skip
        refine est (by exact z_ea) ?_
        refine st_end ⟨lget rfl rfl, ?_⟩
        refine vt_br (by exact z_ol) ?_
        refine sv_nil ?_
        refine va_br rfl ?_ ?_
        · skip
          refine est (by exact z_ea) ?_
          refine st_end ⟨lget rfl rfl, ?_⟩
          refine vt_br (by exact z_ol) ?_
          refine sv_nil ?_
          refine va_br rfl ?_ ?_
          · skip
            refine est (by exact z_ea) ?_
            refine st_end ⟨lget rfl rfl, ?_⟩
            refine vt_br (by exact z_ol) ?_
            refine sv_nil ?_
            refine va_br rfl ?_ ?_
            · skip
              refine est (by exact z_ea) ?_
              refine st_end ⟨lget rfl rfl, ?_⟩
              refine vt_fin (by exact z_ol) ?_
              refine Wo ?_
              refine W ?_
              refine cu uf ?_
              refine W ?_
              refine cu ur ?_
              cases hR : rightsF (l ++ [v]) with
              | true =>
                rw [hR] at hs
                have hs := hs.symm
                simp only [Bool.and_eq_true, Bool.not_eq_true', decide_eq_true_eq] at hs
                obtain ⟨r1, r2, r3⟩ := hs
                rw [r2] at e7
                obtain ⟨rfl, rfl⟩ := Prod.mk.inj (hw hR)
                rw [decide_eq_true rfl] at q0
                refine W ?_
                refine cu (uVrR hv) ?_
                rw [r1]
                refine W ?_
                exact hk
              | false =>
                rw [hR] at hs
                refine W ?_
                refine cu (uVrR hv) ?_
                cases r1 : vrR v with
                | false =>
                  refine W ?_
                  exact hk
                | true =>
                  cases r2 : l.any fun o => twF o v with
                  | true =>
                    rw [r2] at e7
                    refine W ?_
                    exact hk
                  | false =>
                    rw [r1, r2] at hs
                    rw [r2] at e7
                    have r3 : ¬ l.length < 4 := by simpa using hs
                    refine W ?_
                    exact hk
            · skip
              exact va_stop
          · skip
            exact va_stop
        · skip
          exact va_stop
      · skip
        exact va_stop
end Go.Proofs.YtjhmobdncjhcnaaGreatDoor
