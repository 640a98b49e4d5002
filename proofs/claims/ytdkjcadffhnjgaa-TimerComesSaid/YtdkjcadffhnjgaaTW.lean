/- Timers: Tick, walked. -/
import Derived.Test.YtdkjcadffhnjgaaTL
namespace Go.Proofs.Ytdkjcadffhnjgaa
open Go Go.V
set_option maxRecDepth 10000

structure RangeI (σ : VHeap) (bid bg mid mg clock : Nat) (ts : List TEnt) (k : Nat) (env : Env) (σ' : VHeap) (seen : List Nat) (out : List (List UInt8)) (og : Nat) : Prop where
  e0 : env 0 = .ptr bid bg 0
  e12 : env 12 = .iter (σ.length + 2) 1
  e3 : env 3 = .row (σ.length + 1) og
  kk : k + seen.length = ts.length
  nd : seen.Nodup
  sub : ∀ b, b ∈ seen → b ∈ ts.map (·.2.2)
  keep : Keep [mid] σ σ'
  len : σ'.length = σ.length + 5
  box : vGet σ' bid bg = some (.box [.map mid mg] false)
  map : vGet σ' mid mg = some (.map (ents (tmap seen ts)) clock)
  row : vGet σ' (σ.length + 1) og = some (.row 1 (strRow out) false)
  it : vGet σ' (σ.length + 2) 1 = some (.miter mid mg clock clock seen)
  r3 : ∃ x, σ'[σ.length + 3]? = some x
  out : out.Perm (duS seen ts)

structure DelI (σ : VHeap) (bid bg mid mg clock : Nat) (ts1 : List TEnt) (out : List (List UInt8)) (og : Nat) (k : Nat) (env : Env) (σ' : VHeap) (i : Nat) : Prop where
  e0 : env 0 = .ptr bid bg 0
  e31 : env 31 = .row (σ.length + 1) og
  e3 : env 3 = .row (σ.length + 1) og
  e32 : env 32 = .int .i64 out.length
  e33 : env 33 = .int .i64 i
  kk : k + i = out.length
  keep : Keep [mid] σ σ'
  len : σ'.length = σ.length + 5
  box : vGet σ' bid bg = some (.box [.map mid mg] false)
  map : vGet σ' mid mg = some (.map (ents (rest (out.take i) ts1)) clock)
  row : vGet σ' (σ.length + 1) og = some (.row 1 (strRow out) false)

theorem tTick {σ : VHeap} {bid bg mid mg : Nat} {M : TM} {Post : KP} (h : Tm σ bid bg mid mg M) (hM : M.length ≤ 1000)
    (k : ∀ (σ' : VHeap) (ss : List (List UInt8)), Keep [mid] σ σ' → Tm σ' bid bg mid mg (mtick M) → ss.Perm (mdue M) → Post (.sl (strRow (ss.mergeSort fun x y => decide (x ≤ y)))) σ') : T Try.prog 10 [.ptr bid bg 0] σ Post := by
  obtain ⟨hne, h1, ts, clock, h2, hi, hp⟩ := h
  have h1' := vGet_app (τ := vdead 5) h1
  have h2' := vGet_app (τ := vdead 5) h2
  have hml := vGet_lt h2
  have hbl := vGet_lt h1
  have htl : ts.length ≤ 1000 := by rw [← nl_len, hp.length_eq]; exact hM
  refine T10 (sf (by show 1 ≤ _; decide) ?_)
  show vrun _ _ vb10 _ (σ ++ vdead 5) _
  unfold vb10
  refine Wk ?_
  apply st_rangeMap
  exact rfl
  (first | assumption | ((repeat (with_reducible refine hget_ne (by omega) ?_)); first | assumption | (refine hget_eq (by first | omega | (simp only [List.length_set, List.length_append, vdead_len]; omega)))))
  (first | assumption | ((repeat (with_reducible refine hraw_ne (by omega) ?_)); first | assumption | exact hraw_dead (by decide) | (refine hraw_eq (by first | omega | (simp only [List.length_set, List.length_append, vdead_len]; omega)))))
  refine Wk ?_
  apply sc_loop
  refine ⟨fun k env σ' => ∃ seen out og, RangeI σ bid bg mid mg clock ts k env σ' seen out og, ⟨ts.length, [], [], 1, ?_⟩, ?_⟩
  · refine ⟨rfl, rfl, rfl, rfl, by simp, by simp, ((((Keep.refl _ _).app _).set (.inr (by omega))).set (.inr (by omega))).set (.inr (by omega)), by simp [vdead], ?_, ?_, ?_, ?_, ⟨(0, .dead), ?_⟩, by simp [duS]⟩
    · (first | assumption | ((repeat (with_reducible refine hget_ne (by omega) ?_)); first | assumption | (refine hget_eq (by first | omega | (simp only [List.length_set, List.length_append, vdead_len]; omega)))))
    · rw [tmap_nil]
      (first | assumption | ((repeat (with_reducible refine hget_ne (by omega) ?_)); first | assumption | (refine hget_eq (by first | omega | (simp only [List.length_set, List.length_append, vdead_len]; omega)))))
    · (first | assumption | ((repeat (with_reducible refine hget_ne (by omega) ?_)); first | assumption | (refine hget_eq (by first | omega | (simp only [List.length_set, List.length_append, vdead_len]; omega)))))
    · (first | assumption | ((repeat (with_reducible refine hget_ne (by omega) ?_)); first | assumption | (refine hget_eq (by first | omega | (simp only [List.length_set, List.length_append, vdead_len]; omega)))))
    · (first | assumption | ((repeat (with_reducible refine hraw_ne (by omega) ?_)); first | assumption | exact hraw_dead (by decide) | (refine hraw_eq (by first | omega | (simp only [List.length_set, List.length_append, vdead_len]; omega)))))
  rintro k0 env σ1 ⟨seen, out, og, I⟩
  obtain ⟨e0, e12, e3, kk, nd, sub, keep, len, box, map, row, it, ⟨⟨g3, o3⟩, r3⟩, hout⟩ := I
  refine Wk ?_
  apply st_nextMap
  assumption
  assumption
  assumption
  · rintro ⟨_, hne2, hall⟩
    cases hts : ents (tmap seen ts) with
    | nil => exact hne2 hts
    | cons x l =>
      have hx : x ∈ ents (tmap seen ts) := by rw [hts]; exact List.mem_cons_self
      have h3 := hall x hx
      obtain ⟨y, hy, rfl⟩ := List.mem_map.1 hx
      obtain ⟨z, hz, rfl⟩ := List.mem_map.1 hy
      have h4 := hi.lt z hz
      have : (if seen.contains z.2.2 = true then dec1 z else z).2.2 = z.2.2 := by split <;> rfl
      rw [this] at h3
      omega
  · intro kv vv b hmem hsn
    obtain ⟨i, ⟨name, left, b2⟩, hti, rfl, rfl, hb2⟩ := next_ent hmem hsn
    simp only at hb2
    subst hb2
    have hat := tmap_at hti hsn
    have hleft := hi.left _ (List.mem_of_getElem? hti)
    have hbn : ((tmap seen ts).map (·.2.2)).Nodup := by rw [tmap_borns]; exact hi.borns
    have hn' : ((tmap seen ts).map (·.1)).Nodup := by rw [tmap_names]; exact hi.names
    have hfind := find_ent hbn hat
    have hlook := look_at hn' hat
    have hstep := tmap_step (seen := seen) hi.borns hti
    have hsnn : (name, left, b).2.2 ∉ seen := by intro h; rw [List.contains_iff_mem.2 h] at hsn; cases hsn
    have hnd2 : (seen ++ [b]).Nodup := by
      rw [List.nodup_append]; exact ⟨nd, by simp, fun a ha c hc => by simp at hc; subst hc; rintro rfl; exact hsnn ha⟩
    have hsub2 : ∀ c, c ∈ seen ++ [b] → c ∈ ts.map (·.2.2) := by
      intro c hc
      rcases List.mem_append.1 hc with hc | hc
      · exact sub c hc
      · simp at hc; subst hc; exact List.mem_map.2 ⟨_, List.mem_of_getElem? hti, rfl⟩
    have hlen2 := seen_len hnd2 hsub2
    rw [List.length_append, List.length_singleton] at hlen2
    have hnoteq : mid ≠ σ.length + 2 := by omega
    have hol : out.length ≤ 1000 := by
      rw [hout.length_eq]; unfold duS; rw [List.length_map]; exact Nat.le_trans (List.length_filter_le _ _) htl
    simp only at hleft hfind hlook hstep
    refine Wk ?_
    apply st_entry
    assumption
    (first | assumption | ((repeat (with_reducible refine hget_ne (by omega) ?_)); first | assumption | (refine hget_eq (by first | omega | (simp only [List.length_set, List.length_append, vdead_len]; omega)))))
    (first | assumption | ((repeat (with_reducible refine hget_ne (by omega) ?_)); first | assumption | (refine hget_eq (by first | omega | (simp only [List.length_set, List.length_append, vdead_len]; omega)))))
    exact List.getLast?_concat
    exact hfind
    by_cases hl1 : left = 1
    · subst hl1
      refine Wk ?_
      apply st_append1 (es := strRow out) (new := strRow [name])
      (first | exact rfl | assumption)
      (first | exact rfl | assumption)
      (first | assumption | ((repeat (with_reducible refine hget_ne (by omega) ?_)); first | assumption | (refine hget_eq (by first | omega | (simp only [List.length_set, List.length_append, vdead_len]; omega)))))
      · intro e he; simp [strRow] at he; subst he; exact ⟨rfl, rfl⟩
      · (first | assumption | ((repeat (with_reducible refine hget_ne (by omega) ?_)); first | assumption | (refine hget_eq (by first | omega | (simp only [List.length_set, List.length_append, vdead_len]; omega)))))
      · simp [strRow]; omega
      refine Wk ?_
      apply st_updPF (k1 := .str name) (v1 := .int .i64 (1 - 1))
      (first | exact rfl | assumption)
      (first | exact rfl | assumption)
      (first | exact rfl | assumption)
      exact rfl
      (first | assumption | ((repeat (with_reducible refine hget_ne (by omega) ?_)); first | assumption | (refine hget_eq (by first | omega | (simp only [List.length_set, List.length_append, vdead_len]; omega)))))
      exact rfl
      exact hlook
      rw [ents_set, hstep]
      refine Wk ?_
      refine ⟨k0 - 1, by omega, seen ++ [b], out ++ [name], og + 1, e0, e12, rfl, by rw [List.length_append, List.length_singleton]; omega, hnd2, hsub2, ?_, ?_, ?_, ?_, ?_, ?_, ⟨(g3 + 1, .row 1 (strRow [name]) false), ?_⟩, ?_⟩
      · exact (((keep.set (.inr (by omega))).set (.inr (by omega))).set (.inr (by omega))).set (.inl (by simp))
      · simp only [List.length_set]; omega
      · (first | assumption | ((repeat (with_reducible refine hget_ne (by omega) ?_)); first | assumption | (refine hget_eq (by first | omega | (simp only [List.length_set, List.length_append, vdead_len]; omega)))))
      · (first | assumption | ((repeat (with_reducible refine hget_ne (by omega) ?_)); first | assumption | (refine hget_eq (by first | omega | (simp only [List.length_set, List.length_append, vdead_len]; omega)))))
      · have : strRow (out ++ [name]) = strRow out ++ strRow [name] := by simp [strRow]
        rw [this]
        (first | assumption | ((repeat (with_reducible refine hget_ne (by omega) ?_)); first | assumption | (refine hget_eq (by first | omega | (simp only [List.length_set, List.length_append, vdead_len]; omega)))))
      · (first | assumption | ((repeat (with_reducible refine hget_ne (by omega) ?_)); first | assumption | (refine hget_eq (by first | omega | (simp only [List.length_set, List.length_append, vdead_len]; omega)))))
      · (first | assumption | ((repeat (with_reducible refine hraw_ne (by omega) ?_)); first | assumption | exact hraw_dead (by decide) | (refine hraw_eq (by first | omega | (simp only [List.length_set, List.length_append, vdead_len]; omega)))))
      · exact (hout.append_right _).trans (duS_one hi.borns (List.mem_of_getElem? hti) hsn rfl).symm
    · refine Wk ?_
      apply st_updPF (k1 := .str name) (v1 := .int .i64 (left - 1))
      (first | exact rfl | assumption)
      (first | exact rfl | assumption)
      (first | exact rfl | assumption)
      exact rfl
      (first | assumption | ((repeat (with_reducible refine hget_ne (by omega) ?_)); first | assumption | (refine hget_eq (by first | omega | (simp only [List.length_set, List.length_append, vdead_len]; omega)))))
      exact rfl
      exact hlook
      rw [ents_set, hstep]
      refine Wk ?_
      refine ⟨k0 - 1, by omega, seen ++ [b], out, og, e0, e12, e3, by rw [List.length_append, List.length_singleton]; omega, hnd2, hsub2, ?_, ?_, ?_, ?_, ?_, ?_, ⟨(g3, o3), ?_⟩, ?_⟩
      · exact (keep.set (.inr (by omega))).set (.inl (by simp))
      · simp only [List.length_set]; omega
      · (first | assumption | ((repeat (with_reducible refine hget_ne (by omega) ?_)); first | assumption | (refine hget_eq (by first | omega | (simp only [List.length_set, List.length_append, vdead_len]; omega)))))
      · (first | assumption | ((repeat (with_reducible refine hget_ne (by omega) ?_)); first | assumption | (refine hget_eq (by first | omega | (simp only [List.length_set, List.length_append, vdead_len]; omega)))))
      · (first | assumption | ((repeat (with_reducible refine hget_ne (by omega) ?_)); first | assumption | (refine hget_eq (by first | omega | (simp only [List.length_set, List.length_append, vdead_len]; omega)))))
      · (first | assumption | ((repeat (with_reducible refine hget_ne (by omega) ?_)); first | assumption | (refine hget_eq (by first | omega | (simp only [List.length_set, List.length_append, vdead_len]; omega)))))
      · (first | assumption | ((repeat (with_reducible refine hraw_ne (by omega) ?_)); first | assumption | exact hraw_dead (by decide) | (refine hraw_eq (by first | omega | (simp only [List.length_set, List.length_append, vdead_len]; omega)))))
      · rw [duS_no hi.borns (List.mem_of_getElem? hti) hl1]; exact hout
  · intro hall
    have hall' : ∀ e, e ∈ ts → seen.contains e.2.2 = true := by
      intro e he
      cases hc : seen.contains e.2.2 with
      | true => rfl
      | false =>
        obtain ⟨i, hti⟩ := List.mem_iff_getElem?.1 he
        have := hall (.str e.1, .int .i64 e.2.1, e.2.2) (List.mem_map.2 ⟨e, List.mem_of_getElem? (tmap_at hti hc), rfl⟩) hc
        have h4 := hi.lt e he
        simp only at this
        omega
    obtain ⟨f1, f2, f3⟩ := rest_tick hi hp hall' hout
    have hol : out.length ≤ 1000 := by
      rw [hout.length_eq]; unfold duS; rw [List.length_map]; exact Nat.le_trans (List.length_filter_le _ _) htl
    have hsl : (strRow out).length = out.length := by simp [strRow]
    refine Wk ?_
    apply sc_loop
    refine ⟨fun k env σ' => ∃ i, DelI σ bid bg mid mg clock (tmap seen ts) out og k env σ' i, ⟨out.length, 0, ?_⟩, ?_⟩
    · refine ⟨e0, rfl, e3, ?_, rfl, rfl, keep, len, box, ?_, row⟩
      · show PV.int .i64 ((strRow out).length : Nat) = _
        rw [hsl]
      · have : rest (out.take 0) (tmap seen ts) = tmap seen ts := by unfold rest; simp
        rw [this]; exact map
    clear e0 e12 e3 kk nd sub keep len box row it r3
    rintro k1 env1 σ2 ⟨i, I⟩
    obtain ⟨e0, e31, e3, e32, e33, kk, keep, len, box, map2, row⟩ := I
    have hsl : (strRow out).length = out.length := by simp [strRow]
    by_cases hlt : (i : Int) < out.length
    · have hil : i < out.length := by omega
      have hget : out[i]? = some out[i] := List.getElem?_eq_getElem hil
      generalize out[i] = name at hget
      have hne1 : (strRow out)[i]? = some [.str name] := by simp [strRow, hget]
      have hstep := rest_step (ts := tmap seen ts) hget
      have hnd : ((rest (out.take i) (tmap seen ts)).map (·.1)).Nodup := rest_nodup (by rw [tmap_names]; exact hi.names)
      refine Wk ?_
      apply st_indexR
      (first | exact rfl | assumption)
      (first | exact rfl | assumption)
      (first | assumption | ((repeat (with_reducible refine hget_ne (by omega) ?_)); first | assumption | (refine hget_eq (by first | omega | (simp only [List.length_set, List.length_append, vdead_len]; omega)))))
      omega
      refine Wk ?_
      rcases look_cases name (rest (out.take i) (tmap seen ts)) with ⟨j, left, b, e1, e2⟩ | ⟨e1, e2⟩
      · apply st_delF
        (first | exact rfl | assumption)
        (first | assumption | ((repeat (with_reducible refine hget_ne (by omega) ?_)); first | assumption | (refine hget_eq (by first | omega | (simp only [List.length_set, List.length_append, vdead_len]; omega)))))
        exact rfl
        exact e2
        rw [ents_erase, erase_rest hnd e1, ← hstep]
        refine Wk ?_
        refine ⟨k1 - 1, by omega, i + 1, e0, e31, e3, e32, ?_, by omega, keep.set (.inl (by simp)), by rw [List.length_set]; exact len, ?_, ?_, ?_⟩
        · show PV.int .i64 ((i : Int) + 1) = PV.int .i64 ((i + 1 : Nat) : Int)
          congr 1
        · (first | assumption | ((repeat (with_reducible refine hget_ne (by omega) ?_)); first | assumption | (refine hget_eq (by first | omega | (simp only [List.length_set, List.length_append, vdead_len]; omega)))))
        · (first | assumption | ((repeat (with_reducible refine hget_ne (by omega) ?_)); first | assumption | (refine hget_eq (by first | omega | (simp only [List.length_set, List.length_append, vdead_len]; omega)))))
        · (first | assumption | ((repeat (with_reducible refine hget_ne (by omega) ?_)); first | assumption | (refine hget_eq (by first | omega | (simp only [List.length_set, List.length_append, vdead_len]; omega)))))
      · apply st_delN
        (first | exact rfl | assumption)
        (first | assumption | ((repeat (with_reducible refine hget_ne (by omega) ?_)); first | assumption | (refine hget_eq (by first | omega | (simp only [List.length_set, List.length_append, vdead_len]; omega)))))
        exact rfl
        exact e2
        have hsame : rest (out.take (i + 1)) (tmap seen ts) = rest (out.take i) (tmap seen ts) := by
          rw [hstep, List.filter_eq_self]; intro a ha; simpa using e1 a ha
        rw [← hsame]
        refine Wk ?_
        refine ⟨k1 - 1, by omega, i + 1, e0, e31, e3, e32, ?_, by omega, keep.set (.inl (by simp)), by rw [List.length_set]; exact len, ?_, ?_, ?_⟩
        · show PV.int .i64 ((i : Int) + 1) = PV.int .i64 ((i + 1 : Nat) : Int)
          congr 1
        · (first | assumption | ((repeat (with_reducible refine hget_ne (by omega) ?_)); first | assumption | (refine hget_eq (by first | omega | (simp only [List.length_set, List.length_append, vdead_len]; omega)))))
        · (first | assumption | ((repeat (with_reducible refine hget_ne (by omega) ?_)); first | assumption | (refine hget_eq (by first | omega | (simp only [List.length_set, List.length_append, vdead_len]; omega)))))
        · (first | assumption | ((repeat (with_reducible refine hget_ne (by omega) ?_)); first | assumption | (refine hget_eq (by first | omega | (simp only [List.length_set, List.length_append, vdead_len]; omega)))))
    · have hio : i = out.length := by omega
      rw [hio, List.take_length] at map2
      refine Wk ?_
      apply st_callR1
      exact rfl
      refine T_sortStr (fun blk off cap ss w h1 h2 h3 => Try.slices_Sort_string blk off cap ss w h1 h2 h3) (fun p cap w => Try.slices_Sort_string_none p cap w) row (by omega) ?_
      refine Wk ?_
      refine se_retRow rfl rfl rfl (by (first | assumption | ((repeat (with_reducible refine hget_ne (by omega) ?_)); first | assumption | (refine hget_eq (by first | omega | (simp only [List.length_set, List.length_append, vdead_len]; omega)))))) (k _ out ?_ ⟨hne, ?_, _, clock, ?_, f2, f3⟩ f1)
      · exact (keep.set (.inr (by omega))).set (.inr (by omega))
      · (first | assumption | ((repeat (with_reducible refine hget_ne (by omega) ?_)); first | assumption | (refine hget_eq (by first | omega | (simp only [List.length_set, List.length_append, vdead_len]; omega)))))
      · (first | assumption | ((repeat (with_reducible refine hget_ne (by omega) ?_)); first | assumption | (refine hget_eq (by first | omega | (simp only [List.length_set, List.length_append, vdead_len]; omega)))))
end Go.Proofs.Ytdkjcadffhnjgaa
