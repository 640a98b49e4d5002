/- Timers: New, Start, Stop, Clear. -/
import Derived.Test.YtocnjlfnapefjaaGreatDoorT1
import Derived.Test.YtocnjlfnapefjaaGreatDoorF1
namespace Go.Proofs.YtocnjlfnapefjaaGreatDoor
open Go Go.V
set_option maxRecDepth 10000
set_option linter.unusedVariables false
attribute [local irreducible] vBuild vCallV
theorem Keep.set1 {l : List Nat} {σ τ : VHeap} {i : Nat} {x : Nat × VObj} (h : i ∈ l) : Keep l σ (σ.set i x ++ τ) := ((Keep.refl _ _).set (.inl h)).app _
theorem tNew {σ : VHeap} {Post : KP} (k : ∀ σ', Keep [] σ σ' → Tm σ' (σ.length + 1) 1 (σ.length + 0) 1 [] → Post (.ptr (σ.length + 1) 1 0) σ') : T Tryz.prog 20 [] σ Post := by
  refine T20 ?_
  refine W ?_
  refine k _ ((Keep.refl _ _).app _) ⟨by omega, lget rfl rfl, [], 0, lget rfl rfl, ⟨by simp, by simp, by simp, by simp⟩, by simp [nl]⟩
theorem tStart {σ : VHeap} {bid bg mid mg : Nat} {M : TM} {name : List UInt8} {n : Int} {Post : KP} (h : Tm σ bid bg mid mg M) (hn : n ≤ 9223372036854775807)
    (k : ∀ σ', Keep [mid] σ σ' → Tm σ' bid bg mid mg (if startR name n M = 0 then mput name n M else M) → Post (.int .i64 (startR name n M)) σ') : T Tryz.prog 41 [.ptr bid bg 0, .str name, .int .i64 n] σ Post := by
  have h0 := h
  obtain ⟨hne, h1, ts, clock, h2, hi, hp⟩ := h
  have hml := vGet_lt h2
  have hlen : M.length = ts.length := by rw [← hp.length_eq, nl_len]
  have hel := ents_len ts
  have ek : ∀ τ, Keep [mid] σ (σ ++ τ) := fun τ => (Keep.refl _ _).app _
  refine T41 ?_
  rcases look_cases name ts with ⟨i, left, b, e1, e2⟩ | ⟨e1, e2⟩
  · have hh : mhas name M = true := by rw [← mhas_perm hp]; exact has_of_at e1
    by_cases hn1 : n < 1
    · have hr : startR name n M = 1 := by simp [startR, hn1]
      rw [hr] at k
      refine W ?_
      refine ys1 (y_lookF rfl (by exact z_hg) rfl e2) ?_
      refine W ?_
      exact k _ (ek _) (h0.keep ((Keep.refl _ _).app _))
    · have hr : startR name n M = 0 := by simp [startR, hn1, hh]
      rw [hr, if_pos rfl] at k
      refine W ?_
      refine ys1 (y_lookF rfl (by exact z_hg) rfl e2) ?_
      refine W ?_
      refine st_updF (k1 := .str name) (v1 := .int .i64 n) rfl rfl rfl (by exact z_hg) rfl e2 ?_
      rw [oset _ hml]
      refine W ?_
      refine k _ (Keep.set1 (by simp)) ⟨hne, oget (hget_ne (Ne.symm hne) h1), ts.set i (name, n, b), clock, oget ?_, hi.set e1 (by omega) hn, (set_perm ts i name left n b hi.names e1).trans (mput_perm hp)⟩
      rw [ents_set]; exact hget_eq hml
  · have hh : mhas name M = false := by rw [← mhas_perm hp]; exact has_of_no e1
    by_cases hn1 : n < 1
    · have hr : startR name n M = 1 := by simp [startR, hn1]
      rw [hr] at k
      refine W ?_
      refine ys1 (y_lookN rfl (by exact z_hg) rfl e2) ?_
      refine W ?_
      exact k _ (ek _) (h0.keep ((Keep.refl _ _).app _))
    · by_cases hf : 32 ≤ (ents ts).length
      · have hr : startR name n M = 6 := by
          unfold startR
          rw [if_neg hn1, if_pos ⟨hh, by omega⟩]
        rw [hr] at k
        refine W ?_
        refine ys1 (y_lookN rfl (by exact z_hg) rfl e2) ?_
        refine W ?_
        exact k _ (ek _) (h0.keep ((Keep.refl _ _).app _))
      · have hr : startR name n M = 0 := by
          unfold startR
          rw [if_neg hn1, if_neg (by omega)]
        rw [hr, if_pos rfl] at k
        refine W ?_
        refine ys1 (y_lookN rfl (by exact z_hg) rfl e2) ?_
        refine W ?_
        refine st_updN (k1 := .str name) (v1 := .int .i64 n) rfl rfl rfl (by exact z_hg) rfl e2 ?_
        rw [oset _ hml]
        refine W ?_
        refine k _ (Keep.set1 (by simp)) ⟨hne, oget (hget_ne (Ne.symm hne) h1), ts ++ [(name, n, clock)], clock + 1, oget ?_, hi.app e1 (by omega) hn, (app_perm e1).trans (mput_perm hp)⟩
        rw [ents_app]; exact hget_eq hml
theorem tStop {σ : VHeap} {bid bg mid mg : Nat} {M : TM} {name : List UInt8} {Post : KP} (h : Tm σ bid bg mid mg M)
    (k : ∀ σ', Keep [mid] σ σ' → Tm σ' bid bg mid mg (mdel name M) → Post (.bool (mhas name M)) σ') : T Tryz.prog 38 [.ptr bid bg 0, .str name] σ Post := by
  obtain ⟨hne, h1, ts, clock, h2, hi, hp⟩ := h
  have hml := vGet_lt h2
  refine T38 ?_
  rcases look_cases name ts with ⟨i, left, b, e1, e2⟩ | ⟨e1, e2⟩
  · have hh : mhas name M = true := by rw [← mhas_perm hp]; exact has_of_at e1
    rw [hh] at k
    refine W ?_
    refine ys1 (y_lookF rfl (by exact z_hg) rfl e2) ?_
    refine W ?_
    refine st_delF rfl (by exact z_hg) rfl e2 ?_
    rw [oset _ hml]
    refine W ?_
    refine k _ (Keep.set1 (by simp)) ⟨hne, oget (hget_ne (Ne.symm hne) h1), ts.eraseIdx i, clock, oget ?_, hi.erase i, ?_⟩
    · rw [ents_erase]; exact hget_eq hml
    · rw [erase_nl ts i name left b hi.names e1]; exact hp.filter _
  · have hh : mhas name M = false := by rw [← mhas_perm hp]; exact has_of_no e1
    rw [hh] at k
    refine W ?_
    refine ys1 (y_lookN rfl (by exact z_hg) rfl e2) ?_
    refine W ?_
    refine st_delN rfl (by exact z_hg) rfl e2 ?_
    rw [oset _ hml]
    refine W ?_
    refine k _ (Keep.set1 (by simp)) ⟨hne, oget (hget_ne (Ne.symm hne) h1), ts, clock, oget ?_, hi, ?_⟩
    · exact hget_eq hml
    · rw [mdel_no hh]; exact hp
theorem tClear {σ : VHeap} {bid bg mid mg : Nat} {M : TM} {Post : KP} (h : Tm σ bid bg mid mg M)
    (k : ∀ σ', Keep [mid] σ σ' → Tm σ' bid bg mid mg [] → Post (.tup []) σ') : T Tryz.prog 67 [.ptr bid bg 0] σ Post := by
  obtain ⟨hne, h1, ts, clock, h2, hi, hp⟩ := h
  have hml := vGet_lt h2
  refine T67 ?_
  refine W ?_
  refine st_clearMap rfl (by exact z_hg) ?_
  rw [oset _ hml]
  refine W ?_
  refine k _ (Keep.set1 (by simp)) ⟨hne, oget (hget_ne (Ne.symm hne) h1), [], clock, oget (hget_eq hml), ⟨by simp, by simp, by simp, by simp⟩, by simp [nl]⟩
end Go.Proofs.YtocnjlfnapefjaaGreatDoor
