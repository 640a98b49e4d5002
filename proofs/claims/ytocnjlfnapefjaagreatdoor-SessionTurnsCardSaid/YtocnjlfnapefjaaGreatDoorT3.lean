/- Timers: Tick. -/
import Derived.Test.YtocnjlfnapefjaaGreatDoorT2
import Derived.Test.YtocnjlfnapefjaaGreatDoorVSo
import Derived.Test.YtocnjlfnapefjaaGreatDoorShelf
namespace Go.Proofs.YtocnjlfnapefjaaGreatDoor
open Go Go.V
set_option maxRecDepth 10000
set_option linter.unusedVariables false
attribute [local irreducible] vBuild vCallV
theorem set_same {σ : VHeap} {id g : Nat} {o : VObj} (h : vGet σ id g = some o) : σ.set id (g, o) = σ := by
  have h := vGet_some h
  apply List.ext_getElem?
  intro j
  by_cases e : id = j
  · subst e; rw [List.getElem?_set_self (List.getElem?_eq_some_iff.1 h).1, h]
  · rw [List.getElem?_set_ne e]
set_option maxHeartbeats 4000000 in
theorem tTick {σ : VHeap} {bid bg mid mg : Nat} {M : TM} {Post : KP} (h : Tm σ bid bg mid mg M) (hM : M.length ≤ 1000)
    (k : ∀ (σ' : VHeap) (ss : List (List UInt8)), Keep [mid] σ σ' → Tm σ' bid bg mid mg (mtick M) → ss.Perm (mdue M) → Post (.sl (strRow (ss.mergeSort fun x y => decide (x ≤ y)))) σ') : T Tryz.prog 45 [.ptr bid bg 0] σ Post := by
  obtain ⟨hne, h1, ts, clock, h2, hi, hp⟩ := h
  have hml := vGet_lt h2
  have hbl := vGet_lt h1
  have htl : ts.length ≤ 1000 := by rw [← nl_len, hp.length_eq]; exact hM
  have h1s : ∀ x, vGet (σ.set mid x) bid bg = some (.box [.map mid mg] false) := fun x => hget_ne (Ne.symm hne) h1
  refine T45 ?_
  refine W ?_
  refine lp (fun j e s => ∃ seen out og g3 o3, e 0 = .ptr bid bg 0 ∧ e 12 = .iter (σ.length + 2) 1 ∧ e 3 = .row (σ.length + 1) og ∧ j + seen.length = ts.length ∧ seen.Nodup ∧ (∀ b, b ∈ seen → b ∈ ts.map (·.2.2)) ∧ out.Perm (duS seen ts) ∧ s = σ.set mid (mg, .map (ents (tmap seen ts)) clock) ++ [(1, .row 1 [] false), (og, .row 1 (strRow out) false), (1, .miter mid mg clock clock seen), (g3, o3), D.dd]) ts.length ⟨[], [], 1, 0, .dead, rfl, rfl, rfl, by simp, by simp, by simp, by simp [duS], by rw [tmap_nil, set_same h2]; rfl⟩ ?_
  intro j u s' hI
  revert hI
  generalize mix _ u _ = E
  rintro ⟨seen, out, og, g3, o3, e0, e12, e3, kk, nd, sub, hout, rfl⟩
  have sl : (σ.set mid (mg, VObj.map (ents (tmap seen ts)) clock)).length = σ.length := List.length_set
  have map : vGet (σ.set mid (mg, VObj.map (ents (tmap seen ts)) clock)) mid mg = some (.map (ents (tmap seen ts)) clock) := hget_eq hml
  have h1' := h1s (mg, VObj.map (ents (tmap seen ts)) clock)
  have hml' : mid < (σ.set mid (mg, VObj.map (ents (tmap seen ts)) clock)).length := by rw [sl]; exact hml
  have hol : out.length ≤ 1000 := by
    rw [hout.length_eq]; unfold duS; rw [List.length_map]; exact Nat.le_trans (List.length_filter_le _ _) htl
  have hsl : (strRow out).length = out.length := by simp [strRow]
  refine W ?_
  refine st_nextMap e12 (lget sl rfl) (oget map) ?_ ?_ ?_
  · rintro ⟨_, hne2, hall⟩
    cases hts : ents (tmap seen ts) with
    | nil => exact hne2 hts
    | cons x l =>
      have hx : x ∈ ents (tmap seen ts) := by rw [hts]; exact List.mem_cons_self
      have h3 := hall x hx
      obtain ⟨y, hy, rfl⟩ := List.mem_map.1 hx
      obtain ⟨z, hz, rfl⟩ := List.mem_map.1 hy
      have h4 := hi.lt z hz
      have : (if seen.contains z.2.2 = true then dec1 z else z).2.2 = z.2.2 := by split <;> rfl
      rw [this] at h3
      omega
  · intro kv vv b hmem hsn
    obtain ⟨i, ⟨name, left, b2⟩, hti, rfl, rfl, hb2⟩ := next_ent hmem hsn
    simp only at hb2
    subst hb2
    have hat := tmap_at hti hsn
    have hleft := hi.left _ (List.mem_of_getElem? hti)
    have hbn : ((tmap seen ts).map (·.2.2)).Nodup := by rw [tmap_borns]; exact hi.borns
    have hn' : ((tmap seen ts).map (·.1)).Nodup := by rw [tmap_names]; exact hi.names
    have hfind := find_ent hbn hat
    have hlook := look_at hn' hat
    have hstep := tmap_step (seen := seen) hi.borns hti
    have hsnn : (name, left, b).2.2 ∉ seen := by intro h; rw [List.contains_iff_mem.2 h] at hsn; cases hsn
    have hnd2 : (seen ++ [b]).Nodup := by
      rw [List.nodup_append]; exact ⟨nd, by simp, fun a ha c hc => by simp at hc; subst hc; rintro rfl; exact hsnn ha⟩
    have hsub2 : ∀ c, c ∈ seen ++ [b] → c ∈ ts.map (·.2.2) := by
      intro c hc
      rcases List.mem_append.1 hc with hc | hc
      · exact sub c hc
      · simp at hc; subst hc; exact List.mem_map.2 ⟨_, List.mem_of_getElem? hti, rfl⟩
    have hlen2 := seen_len hnd2 hsub2
    rw [List.length_append, List.length_singleton] at hlen2
    simp only at hleft hfind hlook hstep
    rw [lset sl]
    dsimp only [List.set_cons_succ, List.set_cons_zero]
    refine W ?_
    refine st_entry e12 (lget sl rfl) (oget map) List.getLast?_concat hfind ?_
    by_cases hl1 : left = 1
    · subst hl1
      have ap : strRow out ++ strRow [name] = strRow (out ++ [name]) := by simp [strRow]
      refine W ?_
      refine st_updF (k1 := .str name) (v1 := .int .i64 (1 - 1)) rfl rfl rfl (oget map) rfl hlook ?_
      rw [oset _ hml', List.set_set, ents_set, hstep]
      refine W ?_
      refine ⟨j - 1, by omega, seen ++ [b], out ++ [name], og + 1, g3 + 1, _, e0, e12, rfl, by rw [List.length_append, List.length_singleton]; omega, hnd2, hsub2, (hout.append_right _).trans (duS_one hi.borns (List.mem_of_getElem? hti) hsn rfl).symm, rfl⟩
    · refine W ?_
      refine st_updF (k1 := .str name) (v1 := .int .i64 (left - 1)) rfl rfl rfl (oget map) rfl hlook ?_
      rw [oset _ hml', List.set_set, ents_set, hstep]
      refine W ?_
      refine ⟨j - 1, by omega, seen ++ [b], out, og, g3, o3, e0, e12, e3, by rw [List.length_append, List.length_singleton]; omega, hnd2, hsub2, ?_, rfl⟩
      rw [duS_no hi.borns (List.mem_of_getElem? hti) hl1]; exact hout
  · intro hall
    have hall' : ∀ e, e ∈ ts → seen.contains e.2.2 = true := by
      intro e he
      cases hc : seen.contains e.2.2 with
      | true => rfl
      | false =>
        obtain ⟨i, hti⟩ := List.mem_iff_getElem?.1 he
        have := hall (.str e.1, .int .i64 e.2.1, e.2.2) (List.mem_map.2 ⟨e, List.mem_of_getElem? (tmap_at hti hc), rfl⟩) hc
        have h4 := hi.lt e he
        simp only at this
        omega
    obtain ⟨f1, f2, f3⟩ := rest_tick hi hp hall' hout
    have hr0 : rest (out.take 0) (tmap seen ts) = tmap seen ts := by unfold rest; rw [List.filter_eq_self]; simp
    refine W ?_
    refine lp (fun j e s => ∃ i : Nat, j + i = out.length ∧ e 0 = .ptr bid bg 0 ∧ e 3 = .row (σ.length + 1) og ∧ e 31 = .row (σ.length + 1) og ∧ e 32 = .int .i64 out.length ∧ e 33 = .int .i64 i ∧ s = σ.set mid (mg, .map (ents (rest (out.take i) (tmap seen ts))) clock) ++ [(1, .row 1 [] false), (og, .row 1 (strRow out) false), (1, .miter mid mg clock clock seen), (g3, o3), D.dd]) out.length ⟨0, by simp, e0, e3, rfl, by rw [← hsl]; rfl, rfl, by rw [hr0]⟩ ?_
    clear sl map h1' hml'
    intro j2 u2 s2 hI
    revert hI
    generalize mix _ u2 _ = E2
    rintro ⟨i, kk2, e0, e3, e31, e32, e33, rfl⟩
    have sl : (σ.set mid (mg, VObj.map (ents (rest (out.take i) (tmap seen ts))) clock)).length = σ.length := List.length_set
    have map : vGet (σ.set mid (mg, VObj.map (ents (rest (out.take i) (tmap seen ts))) clock)) mid mg = some (.map (ents (rest (out.take i) (tmap seen ts))) clock) := hget_eq hml
    have h1' := h1s (mg, VObj.map (ents (rest (out.take i) (tmap seen ts))) clock)
    have hml' : mid < (σ.set mid (mg, VObj.map (ents (rest (out.take i) (tmap seen ts))) clock)).length := by rw [sl]; exact hml
    by_cases hlt : i < out.length
    · obtain ⟨name, hget⟩ : ∃ name, out[i]? = some name := ⟨_, List.getElem?_eq_getElem hlt⟩
      have hne1 : (strRow out)[i]? = some [.str name] := by simp [strRow, hget]
      have hne2 : (strRow out)[(i : Int).toNat]? = some [.str name] := hne1
      have hstep := rest_step (ts := tmap seen ts) hget
      have hnd : ((rest (out.take i) (tmap seen ts)).map (·.1)).Nodup := rest_nodup (by rw [tmap_names]; exact hi.names)
      refine W ?_
      rcases look_cases name (rest (out.take i) (tmap seen ts)) with ⟨j, left, b, e1, e2⟩ | ⟨e1, e2⟩
      · refine st_delF rfl (oget map) rfl e2 ?_
        rw [oset _ hml', List.set_set, ents_erase, erase_rest hnd e1, ← hstep]
        refine W ?_
        exact ⟨j2 - 1, by omega, i + 1, by omega, e0, e3, e31, e32, rfl, rfl⟩
      · refine st_delN rfl (oget map) rfl e2 ?_
        have hsame : rest (out.take (i + 1)) (tmap seen ts) = rest (out.take i) (tmap seen ts) := by
          rw [hstep, List.filter_eq_self]; intro a ha; simpa using e1 a ha
        rw [oset _ hml', List.set_set, ← hsame]
        refine W ?_
        exact ⟨j2 - 1, by omega, i + 1, by omega, e0, e3, e31, e32, rfl, rfl⟩
    · have hio : i = out.length := by omega
      rw [hio, List.take_length] at map h1' sl ⊢
      refine W ?_
      refine callR rfl ?_
      refine T_sortStr (ss := out) (fun blk off cap ss w h1 h2 h3 => Tryz.slices_Sort_string blk off cap ss w h1 h2 h3) (fun p cap w => Tryz.slices_Sort_string_none p cap w) (lget sl (vGet_of rfl)) (by omega) ?_
      rw [lset sl]
      dsimp only [List.set_cons_succ, List.set_cons_zero]
      refine W ?_
      refine ret_i (.inl rfl) rfl (by exact z_rw) (by exact z_il) sl ?_
      refine k _ out (Keep.set1 (by simp)) ⟨hne, oget h1', _, clock, oget map, f2, f3⟩ f1
end Go.Proofs.YtocnjlfnapefjaaGreatDoor
