/- Timers: an act played. -/
import Derived.Test.YtdkjcadffhnjgaaTA
namespace Go.Proofs.Ytdkjcadffhnjgaa
open Go Go.V
set_option maxRecDepth 10000

def mplay (d : Int) (s : List UInt8) (n : Int) (M : TM) : TM :=
  if d = 0 then (if startR s n M = 0 then mput s n M else M) else if d = 1 then mdel s M else if d = 3 then mtick M else if d = 5 then [] else M

theorem mput_len {name : List UInt8} {n : Int} {M : TM} (h : startR name n M = 0) (hl : M.length ≤ 32) : (mput name n M).length ≤ 32 := by
  unfold mput
  rw [List.length_cons]
  have hf := List.length_filter_le (fun e : List UInt8 × Int => e.1 != name) M
  unfold startR at h
  split at h
  · cases h
  · split at h
    · cases h
    · rename_i hn
      by_cases hh : mhas name M = true
      · have : (M.filter fun e => e.1 != name).length ≠ M.length := by
          intro he
          have := List.length_filter_eq_length_iff.1 he
          unfold mhas at hh
          rw [List.any_eq_true] at hh
          obtain ⟨x, hx, hx2⟩ := hh
          have h2 := this x hx
          simp at hx2 h2
          exact h2 hx2
        omega
      · have : mhas name M = false := by simpa using hh
        have : ¬ 32 ≤ M.length := fun h => hn ⟨this, h⟩
        omega
theorem mplay_len {d n : Int} {s : List UInt8} {M : TM} (hl : M.length ≤ 32) : (mplay d s n M).length ≤ 32 := by
  unfold mplay
  split
  · split
    · exact mput_len ‹_› hl
    · exact hl
  · split
    · exact Nat.le_trans (List.length_filter_le _ _) hl
    · split
      · unfold mtick; rw [List.length_map]; exact Nat.le_trans (List.length_filter_le _ _) hl
      · split
        · simp
        · exact hl
theorem Tm.left {σ : VHeap} {bid bg mid mg : Nat} {M : TM} (h : Tm σ bid bg mid mg M) : ∀ e, e ∈ M → 1 ≤ e.2 ∧ e.2 ≤ 9223372036854775807 := by
  obtain ⟨ts, clock, _, hi, hp⟩ := h.map
  intro e he
  obtain ⟨x, hx, rfl⟩ := List.mem_map.1 (hp.mem_iff.2 he)
  exact hi.left x hx

theorem tPlay {σ : VHeap} {bid bg mid mg : Nat} {M : TM} {d n : Int} {s : List UInt8} {Post : KP} (h : Tm σ bid bg mid mg M) (hl : M.length ≤ 32) (hn : n ≤ 9223372036854775807)
    (k : ∀ σ', Keep [mid] σ σ' → Tm σ' bid bg mid mg (mplay d s n M) → Post (.tup []) σ') : T Try.prog 23 [.ptr bid bg 0, .agg [.int .i64 d, .str s, .int .i64 n]] σ Post := by
  have hml : mid < σ.length := by obtain ⟨ts, clock, h2, _⟩ := h.map; exact vGet_lt h2
  have hbl := vGet_lt h.box
  refine T23 (sf (by show 2 ≤ _; decide) ?_)
  show vrun _ _ vb23 _ (σ ++ vdead 1) _
  unfold vb23
  have own : ∀ x, Keep [] σ ((σ ++ vdead 1).set (σ.length + 0) x) := fun x => ((Keep.refl _ _).app _).set (.inr (by omega))
  by_cases h0 : d = 0
  · subst h0
    refine Wk ?_
    apply st_callP (vs := [.ptr bid bg 0, .str s, .int .i64 n]) rfl rfl
    refine tStart (h.keep (own _)) hn fun σ2 k2 t2 => ?_
    refine Wk ?_
    exact se_normP rfl rfl rfl (k _ (((own _).mono (by simp)).trans k2) t2)
  by_cases h1 : d = 1
  · subst h1
    refine Wk ?_
    apply st_callP (vs := [.ptr bid bg 0, .str s]) rfl rfl
    refine tStop (h.keep (own _)) fun σ2 k2 t2 => ?_
    refine Wk ?_
    exact se_normP rfl rfl rfl (k _ (((own _).mono (by simp)).trans k2) t2)
  by_cases h3 : d = 3
  · subst h3
    refine Wk ?_
    apply st_callP (vs := [.ptr bid bg 0]) rfl rfl
    refine tTick (h.keep (own _)) (by omega) fun σ2 ss k2 t2 _ => ?_
    refine Wk ?_
    exact se_normP rfl rfl rfl (k _ (((own _).mono (by simp)).trans k2) t2)
  by_cases h5 : d = 5
  · subst h5
    refine Wk ?_
    apply st_callP (vs := [.ptr bid bg 0]) rfl rfl
    refine tClear (h.keep (own _)) fun σ2 k2 t2 => ?_
    refine Wk ?_
    exact se_normP rfl rfl rfl (k _ (((own _).mono (by simp)).trans k2) t2)
  have hm : mplay d s n M = M := by unfold mplay; rw [if_neg h0, if_neg h1, if_neg h3, if_neg h5]
  rw [hm] at k
  refine Wk ?_
  exact se_normP rfl rfl rfl (k _ ((own _).mono (by simp)) (h.keep (own _)))
end Go.Proofs.Ytdkjcadffhnjgaa
