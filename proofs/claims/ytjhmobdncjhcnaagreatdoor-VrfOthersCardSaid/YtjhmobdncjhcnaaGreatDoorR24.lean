/- vrf.Find; the law VrfOthers as a triple. -/
import Derived.Test.YtjhmobdncjhcnaaGreatDoorR22
import Derived.Test.YtjhmobdncjhcnaaGreatDoorR9
import Derived.Test.YtjhmobdncjhcnaaGreatDoorR24a
namespace Go.Proofs.YtjhmobdncjhcnaaGreatDoor
open Go Go.V
set_option maxRecDepth 10000
set_option linter.unusedVariables false
attribute [local irreducible] vBuild vCallV
set_option maxHeartbeats 16000000 in
theorem tSameName {v : Vr} {s : List UInt8} {σ : VHeap} {Post : KP} {p g : Nat} (ov : okVr v) (hg : vGet σ p g = some (.box [.str s] false)) (hk : Post (.bool (decide (v.name = s))) σ) : T Tryz.prog 60 [.agg (vrC v), .ptr p g 0] σ Post := by
  skip
  have sc := vrC_sc (x := v)
  have ln := vrC_len ov
  have c0 := vrC_all ov
  have g1 := vrC_gname ov
  have hi := vGet_lt hg
  refine T60 fun hB hA => ?_
  by_cases h1 : v.name = s
  · have sb : sbin .eql v.name s = some (.bool true) := sb_eqlT h1
    refine W ?_
    exact fin hk (show PV.bool (decide (v.name = s)) = .bool true by simp [h1])
  · have sb : sbin .eql v.name s = some (.bool false) := by rw [sb_eql, decide_eq_false h1]
    refine W ?_
    exact fin hk (show PV.bool (decide (v.name = s)) = .bool false by simp [h1])
set_option maxHeartbeats 16000000 in
theorem uVCopied {v : Vr} (h : okVrf v) (li : v.imp.length ≤ 1000) (le : v.exp.length ≤ 1000) (ls : v.sel.length ≤ 1000) : U Tryz.prog 61 [.agg (vrC v)] (.agg (vrC v)) := by
  intro σ Post hk
  have ov := h.ok
  have sc := vrC_sc (x := v)
  have ln := vrC_len ov
  have c0 := vrC_all ov
  have g1 := vrC_gname ov
  have g2 := vrC_gnum ov
  have g3 := vrC_grd ov
  have g4 := vrC_gimp ov
  have g5 := vrC_gexp ov
  have g6 := vrC_grp ov
  have g7 := vrC_gsel ov
  have b1 : (v.imp.map u8c).length = v.imp.length := List.length_map _
  have b2 : (v.exp.map u8c).length = v.exp.length := List.length_map _
  have b3 : (v.sel.map adc).length = v.sel.length := List.length_map _
  have o1 : RowOk 8 (v.imp.map u8c) := fun e he => by obtain ⟨c, hc, rfl⟩ := List.mem_map.1 he; exact ⟨by rw [u8c_len, h.imp c hc], u8c_sc c⟩
  have o2 : RowOk 8 (v.exp.map u8c) := fun e he => by obtain ⟨c, hc, rfl⟩ := List.mem_map.1 he; exact ⟨by rw [u8c_len, h.exp c hc], u8c_sc c⟩
  have o3 : RowOk 17 (v.sel.map adc) := fun e he => by obtain ⟨c, hc, rfl⟩ := List.mem_map.1 he; exact ⟨adc_len (h.sel c hc), adc_sc⟩
  have s1' : splice (vrC v) 10 [.sl (v.imp.map u8c)] = vrC v := vrC_simp ov (v := v.imp)
  have s2' : splice (vrC v) 11 [.sl (v.exp.map u8c)] = vrC v := vrC_sexp ov (v := v.exp)
  have s3' : splice (vrC v) 29 [.sl (v.sel.map adc)] = vrC v := vrC_ssel ov (v := v.sel)
  have d0 := vrC_any ov (cs := [PV.str [], .int .i64 0, D.o, D.o, D.o, D.o, D.o, D.o, D.o, D.o, .nils, .nils, .int .i64 0, D.o, D.o, D.o, D.o, D.o, D.o, D.o, D.o, D.o, D.o, D.o, D.o, D.o, D.o, D.o, D.o, .nils]) rfl
  refine T61 fun hB hA => ?_
  refine Wo ?_
  refine drJ (fun hh => vGet hh (σ.length + 0) 1 = some (.box (vrC v) false)) [(1, 0), (1, 1), (1, 2), (1, 3), (1, 4), (1, 5), (1, 6), (1, 7), (1, 8), (1, 9), (0, 10), (1, 11), (0, 12), (1, 13), (0, 14)] (by kernel_rfl) (by kernel_rfl) (by exact z_ol) (lget rfl rfl) ?_
  refine Wo ?_
  refine s1 (uClE o1 (by rw [b1]; omega)) ?_
  refine Wo ?_
  refine s1 (uClE o2 (by rw [b2]; omega)) ?_
  refine Wo ?_
  refine s1 (uClA o3 (by rw [b3]; omega)) ?_
  refine Wo ?_
  refine sv_0 ?_
  refine est (by exact z_ea) ?_
  refine st_end ⟨lget rfl rfl, ?_⟩
  refine Wo ?_
  refine sv_0 ?_
  refine est (by exact z_ea) ?_
  refine st_end ⟨lget rfl rfl, ?_⟩
  refine Wo ?_
  refine sv_0 ?_
  refine est (by exact z_ea) ?_
  refine st_end ⟨lget rfl rfl, ?_⟩
  refine W ?_
  exact hk
theorem idxF_pos {α : Type} (p : α → Bool) : ∀ l : List α, 0 ≤ idxF p l → ∃ w, l[(idxF p l).toNat]? = some w ∧ p w = true ∧ (idxF p l).toNat < l.length
  | [], h => by simp [idxF] at h
  | x :: r, h => by
    rw [idxF_cons] at h ⊢
    cases hp : p x with
    | true => exact ⟨x, by simp, hp, by simp⟩
    | false =>
      rw [hp] at h
      simp only [Bool.false_eq_true, if_false] at h ⊢
      split at h
      · omega
      · rename_i h1
        rw [if_neg h1]
        obtain ⟨w, hw, hpw, hlt⟩ := idxF_pos p r (by omega)
        have e : (idxF p r + 1).toNat = (idxF p r).toNat + 1 := by omega
        exact ⟨w, by rw [e, List.getElem?_cons_succ]; exact hw, hpw, by rw [e, List.length_cons]; omega⟩
structure fewV (v : Vr) : Prop where
  ok : okVrf v
  li : v.imp.length ≤ 1000
  le : v.exp.length ≤ 1000
  ls : v.sel.length ≤ 1000
theorem vr0_ok : okVr vr0 := ⟨rfl, rfl⟩
def vrZ : List PV := [PV.str []] ++ ([PV.int .i64 0] ++ (u8c [0, 0, 0, 0, 0, 0, 0, 0] ++ ([PV.nils] ++ ([PV.nils] ++ (adc ad0 ++ [PV.nils])))))
theorem vrZ_inl {n : Nat} {L0 L : VHeap} : InlA n L0 L vrZ (vrC vr0) L :=
  InlA_app (InlA_pl inferInstance) (InlA_app (InlA_pl inferInstance) (InlA_app (InlA_pl inferInstance) (InlA_app (.nils (.nil _)) (InlA_app (.nils (.nil _)) (InlA_app (InlA_pl inferInstance) (.nils (.nil _)))))))
def findF (l : List Vr) (s : List UInt8) : Vr × Bool := if idxF (fun o : Vr => decide (o.name = s)) l < 0 then (vr0, false) else ((l[(idxF (fun o : Vr => decide (o.name = s)) l).toNat]?).getD vr0, true)
set_option maxHeartbeats 16000000 in
theorem uFind {l : List Vr} {s : List UInt8} (ho : ∀ v, v ∈ l → fewV v) (hl : l.length ≤ 4611686018427387904) : U Tryz.prog 22 [.sl (l.map vrC), .str s] (.tup [.agg (vrC (findF l s).1), .bool (findF l s).2]) := by
  intro σ Post hk
  have b1 : (l.map vrC).length = l.length := List.length_map _
  have hcall : callOk Tryz.prog 60 = true := by kernel_rfl
  have hlo := idxF_lo (fun o : Vr => decide (o.name = s)) l
  have hp := idxF_pos (fun o : Vr => decide (o.name = s)) l
  unfold findF at hk
  refine T22 fun hB hA => ?_
  refine W ?_
  refine ct ?_
  refine tIdxV (l := l) (p := fun o => decide (o.name = s)) hl hcall (fun x hx => (ho x hx).ok.ok) (fun x hx L Q hq => tSameName (ho x hx).ok.ok (oget (lget rfl rfl)) hq) ?_
  generalize idxF (fun o : Vr => decide (o.name = s)) l = I at *
  by_cases h0 : I < 0
  · rw [if_pos h0] at hk
    have d1 : splice [PV.str [], .int .i64 0, D.o, D.o, D.o, D.o, D.o, D.o, D.o, D.o, .nils, .nils, .int .i64 0, D.o, D.o, D.o, D.o, D.o, D.o, D.o, D.o, D.o, D.o, D.o, D.o, D.o, D.o, D.o, D.o, .nils] 0 [PV.str [], .int .i64 0, D.o, D.o, D.o, D.o, D.o, D.o, D.o, D.o, .nils, .nils, .int .i64 0, D.o, D.o, D.o, D.o, D.o, D.o, D.o, D.o, D.o, D.o, D.o, D.o, D.o, D.o, D.o, D.o, .nils] = vrZ := rfl
    have zc : cut vrZ 0 (some 30) = some (.agg vrZ) := cut_hd0 rfl
    have zl : vrZ.length = 30 := rfl
    refine W ?_
    refine ret_t (xs := [.agg vrZ, .bool false]) (vs := [.agg (vrC vr0), .bool false]) (.inl rfl) rfl (by exact z_rw) (InlA.agg vrZ_inl (.pl inferInstance (.nil _))) (ClL.cl _) (by exact z_hn) (by exact z_hb) ?_
    exact hk
  · rw [if_neg h0] at hk
    obtain ⟨w, hw, _, hlt⟩ := hp (by omega)
    rw [hw] at hk
    have hw' := ho w (List.mem_of_getElem? hw)
    have hg : (l.map vrC)[I.toNat]? = some (vrC w) := by rw [List.getElem?_map, hw]; rfl
    have ov := hw'.ok.ok
    have sc := vrC_sc (x := w)
    have ln := vrC_len ov
    have c0 := vrC_all ov
    have d0 := vrC_any ov (cs := [PV.str [], .int .i64 0, D.o, D.o, D.o, D.o, D.o, D.o, D.o, D.o, .nils, .nils, .int .i64 0, D.o, D.o, D.o, D.o, D.o, D.o, D.o, D.o, D.o, D.o, D.o, D.o, D.o, D.o, D.o, D.o, .nils]) rfl
    refine W ?_
    refine cu (uVCopied hw'.ok hw'.li hw'.le hw'.ls) ?_
    refine W ?_
    exact hk
theorem rightsG_snoc (v : Vr) : ∀ (l p : List Vr), rightsG p (l ++ [v]) = (rightsG p l && (vrR v && !((p ++ l).any fun o => twF o v)))
  | [], p => by simp [rightsG]
  | x :: r, p => by
    rw [List.cons_append, rightsG, rightsG, rightsG_snoc v r (p ++ [x]), List.append_assoc, List.singleton_append]
    simp only [Bool.and_assoc]
theorem rightsF_snoc {l : List Vr} {v : Vr} (h : rightsF l = true) : rightsF (l ++ [v]) = (vrR v && (!(l.any fun o => twF o v) && decide (l.length < 4))) := by
  unfold rightsF at h ⊢
  simp only [Bool.and_eq_true, decide_eq_true_eq] at h
  rw [rightsG_snoc, h.1, List.nil_append, Bool.true_and, Bool.and_assoc, List.length_append, List.length_singleton]
  rfl
theorem idxF_first {α : Type} (p : α → Bool) (v : α) (hv : p v = true) : ∀ l : List α, l.any p = false → idxF p (l ++ [v]) = l.length
  | [], _ => by rw [List.nil_append, idxF_cons, if_pos hv]; rfl
  | x :: r, h => by
    rw [List.any_cons, Bool.or_eq_false_iff] at h
    have ih := idxF_first p v hv r h.2
    rw [List.cons_append, idxF_cons, if_neg (by simp [h.1]), ih, if_neg (by omega), List.length_cons]; omega
theorem find_snoc {l : List Vr} {v : Vr} (h : rightsF (l ++ [v]) = true) : findF (l ++ [v]) v.name = (v, true) := by
  have h1 : (l.any fun o => decide (o.name = v.name)) = false := by
    unfold rightsF at h
    rw [rightsG_snoc] at h
    simp only [Bool.and_eq_true, Bool.not_eq_true', List.nil_append] at h
    have h2 := h.1.2.2
    rw [List.any_eq_false] at h2 ⊢
    intro x hx
    have := h2 x hx
    unfold twF at this
    simp only [Bool.or_eq_true, not_or] at this
    exact this.1
  unfold findF
  rw [idxF_first _ v (by simp) l h1, if_neg (by omega)]
  simp
theorem right_few {l : List Vr} (ho : ∀ v, v ∈ l → okVrf v) (h : rightsF l = true) (v : Vr) (hv : v ∈ l) : fewV v := by
  unfold rightsF at h
  have := rightsG_len _ _ v hv (Bool.and_eq_true _ _ ▸ h).1
  unfold vrR targF at this
  simp only [Bool.and_eq_true, decide_eq_true_eq] at this
  obtain ⟨_, _, _, _, ⟨_, a, _⟩, ⟨_, b, _⟩, _, _, c, _⟩ := this
  exact ⟨ho v hv, by omega, by omega, by omega⟩
end Go.Proofs.YtjhmobdncjhcnaaGreatDoor
