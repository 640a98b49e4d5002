/- Timers: Next. -/
import Derived.Test.YtdkjcadffhnjgaaTW
namespace Go.Proofs.Ytdkjcadffhnjgaa
open Go Go.V
set_option maxRecDepth 10000

def IsNext (M : TM) (n : Int) (is : Bool) : Prop := (M = [] → n = 0 ∧ is = false) ∧ (M ≠ [] → is = true ∧ (∃ e, e ∈ M ∧ e.2 = n) ∧ ∀ e, e ∈ M → n ≤ e.2)

structure NextI (σ : VHeap) (bid bg mid mg clock : Nat) (ts : List TEnt) (k : Nat) (env : Env) (σ' : VHeap) (seen : List Nat) (n : Int) (is : Bool) : Prop where
  e12 : env 12 = .iter (σ.length + 0) 1
  e4 : env 4 = .int .i64 n
  e5 : env 5 = .bool is
  kk : k + seen.length = ts.length
  nd : seen.Nodup
  sub : ∀ b, b ∈ seen → b ∈ ts.map (·.2.2)
  keep : Keep [] σ σ'
  len : σ'.length = σ.length + 1
  map : vGet σ' mid mg = some (.map (ents ts) clock)
  it : vGet σ' (σ.length + 0) 1 = some (.miter mid mg clock clock seen)
  n0 : is = false → n = 0 ∧ seen = []
  n1 : is = true → ∃ e, e ∈ ts ∧ e.2.1 = n
  n2 : ∀ e, e ∈ ts → seen.contains e.2.2 = true → is = true ∧ n ≤ e.2.1

theorem tNext {σ : VHeap} {bid bg mid mg : Nat} {M : TM} {Post : KP} (h : Tm σ bid bg mid mg M)
    (k : ∀ (σ' : VHeap) (n : Int) (is : Bool), Keep [] σ σ' → IsNext M n is → Post (.tup [.int .i64 n, .bool is]) σ') : T Try.prog 21 [.ptr bid bg 0] σ Post := by
  obtain ⟨hne, h1, ts, clock, h2, hi, hp⟩ := h
  have h1' := vGet_app (τ := vdead 1) h1
  have h2' := vGet_app (τ := vdead 1) h2
  have hml := vGet_lt h2
  have hbl := vGet_lt h1
  refine T21 (sf (by show 1 ≤ _; decide) ?_)
  show vrun _ _ vb21 _ (σ ++ vdead 1) _
  unfold vb21
  refine Wk ?_
  apply st_rangeMap
  exact rfl
  (first | assumption | ((repeat (with_reducible refine hget_ne (by omega) ?_)); first | assumption | (refine hget_eq (by first | omega | (simp only [List.length_set, List.length_append, vdead_len]; omega)))))
  (first | assumption | ((repeat (with_reducible refine hraw_ne (by omega) ?_)); first | assumption | exact hraw_dead (by decide) | (refine hraw_eq (by first | omega | (simp only [List.length_set, List.length_append, vdead_len]; omega)))))
  refine Wk ?_
  apply sc_loop
  refine ⟨fun k env σ' => ∃ seen n is, NextI σ bid bg mid mg clock ts k env σ' seen n is, ⟨ts.length, [], 0, false, ?_⟩, ?_⟩
  · refine ⟨rfl, rfl, rfl, rfl, by simp, by simp, (((Keep.refl _ _).app _).set (.inr (by omega))), by simp [vdead], ?_, ?_, by simp, by simp, by simp⟩
    · (first | assumption | ((repeat (with_reducible refine hget_ne (by omega) ?_)); first | assumption | (refine hget_eq (by first | omega | (simp only [List.length_set, List.length_append, vdead_len]; omega)))))
    · (first | assumption | ((repeat (with_reducible refine hget_ne (by omega) ?_)); first | assumption | (refine hget_eq (by first | omega | (simp only [List.length_set, List.length_append, vdead_len]; omega)))))
  rintro k0 env σ1 ⟨seen, n, is, I⟩
  obtain ⟨e12, e4, e5, kk, nd, sub, keep, len, map, it, n0, n1, n2⟩ := I
  refine Wk ?_
  apply st_nextMap
  assumption
  assumption
  assumption
  · rintro ⟨_, hne2, hall⟩
    cases hts : ents ts with
    | nil => exact hne2 hts
    | cons x l =>
      have hx : x ∈ ents ts := by rw [hts]; exact List.mem_cons_self
      have h3 := hall x hx
      obtain ⟨z, hz, rfl⟩ := List.mem_map.1 hx
      have h4 := hi.lt z hz
      simp only at h3
      omega
  · intro kv vv b hmem hsn
    obtain ⟨⟨name, left, b2⟩, hm, he⟩ := List.mem_map.1 hmem
    obtain ⟨i, hti⟩ := List.mem_iff_getElem?.1 hm
    simp only [Prod.mk.injEq] at he
    obtain ⟨rfl, rfl, rfl⟩ := he
    have hfind := find_ent hi.borns hti
    have hleft := hi.left _ hm
    have hsnn : b2 ∉ seen := by intro h; rw [List.contains_iff_mem.2 h] at hsn; cases hsn
    have hnd2 : (seen ++ [b2]).Nodup := by
      rw [List.nodup_append]; exact ⟨nd, by simp, fun a ha c hc => by simp at hc; subst hc; rintro rfl; exact hsnn ha⟩
    have hsub2 : ∀ c, c ∈ seen ++ [b2] → c ∈ ts.map (·.2.2) := by
      intro c hc
      rcases List.mem_append.1 hc with hc | hc
      · exact sub c hc
      · simp at hc; subst hc; exact List.mem_map.2 ⟨_, hm, rfl⟩
    have hlen2 := seen_len hnd2 hsub2
    rw [List.length_append, List.length_singleton] at hlen2
    have huniq : ∀ e, e ∈ ts → e.2.2 = b2 → e.2.1 = left := by
      intro e he hb
      obtain ⟨j, hj⟩ := List.mem_iff_getElem?.1 he
      have : i = j := nodup_idx hi.borns (a := b2) (by rw [List.getElem?_map, hti]; rfl) (by rw [List.getElem?_map, hj]; simp [hb])
      subst this; rw [hti] at hj; cases hj; rfl
    have hcon : ∀ e, e ∈ ts → (seen ++ [b2]).contains e.2.2 = true → seen.contains e.2.2 = true ∨ e.2.1 = left := by
      intro e he h
      rw [List.contains_iff_mem] at h
      rcases List.mem_append.1 h with h | h
      · exact .inl (List.contains_iff_mem.2 h)
      · simp at h; exact .inr (huniq e he h)
    have hnoteq : mid ≠ σ.length + 0 := by omega
    simp only at hleft hfind
    have hkk : k0 - 1 + (seen ++ [b2]).length = ts.length := by rw [List.length_append, List.length_singleton]; omega
    refine Wk ?_
    apply st_entry
    assumption
    (first | assumption | ((repeat (with_reducible refine hget_ne (by omega) ?_)); first | assumption | (refine hget_eq (by first | omega | (simp only [List.length_set, List.length_append, vdead_len]; omega)))))
    (first | assumption | ((repeat (with_reducible refine hget_ne (by omega) ?_)); first | assumption | (refine hget_eq (by first | omega | (simp only [List.length_set, List.length_append, vdead_len]; omega)))))
    exact List.getLast?_concat
    exact hfind
    cases is with
    | false =>
      refine Wk ?_
      refine ⟨k0 - 1, by omega, seen ++ [b2], left, true, e12, rfl, rfl, hkk, hnd2, hsub2, keep.set (.inr (by omega)), by rw [List.length_set]; exact len, ?_, ?_, by simp, fun _ => ⟨_, hm, rfl⟩, ?_⟩
      · (first | assumption | ((repeat (with_reducible refine hget_ne (by omega) ?_)); first | assumption | (refine hget_eq (by first | omega | (simp only [List.length_set, List.length_append, vdead_len]; omega)))))
      · (first | assumption | ((repeat (with_reducible refine hget_ne (by omega) ?_)); first | assumption | (refine hget_eq (by first | omega | (simp only [List.length_set, List.length_append, vdead_len]; omega)))))
      · intro e he h
        rcases hcon e he h with h | h
        · exact absurd (n2 e he h).1 (by simp)
        · exact ⟨rfl, by omega⟩
    | true =>
      by_cases hlt : left < n
      · refine Wk ?_
        refine ⟨k0 - 1, by omega, seen ++ [b2], left, true, e12, rfl, rfl, hkk, hnd2, hsub2, keep.set (.inr (by omega)), by rw [List.length_set]; exact len, ?_, ?_, by simp, fun _ => ⟨_, hm, rfl⟩, ?_⟩
        · (first | assumption | ((repeat (with_reducible refine hget_ne (by omega) ?_)); first | assumption | (refine hget_eq (by first | omega | (simp only [List.length_set, List.length_append, vdead_len]; omega)))))
        · (first | assumption | ((repeat (with_reducible refine hget_ne (by omega) ?_)); first | assumption | (refine hget_eq (by first | omega | (simp only [List.length_set, List.length_append, vdead_len]; omega)))))
        · intro e he h
          rcases hcon e he h with h | h
          · have := (n2 e he h).2; exact ⟨rfl, by omega⟩
          · exact ⟨rfl, by omega⟩
      · refine Wk ?_
        refine ⟨k0 - 1, by omega, seen ++ [b2], n, true, e12, e4, e5, hkk, hnd2, hsub2, keep.set (.inr (by omega)), by rw [List.length_set]; exact len, ?_, ?_, by simp, n1, ?_⟩
        · (first | assumption | ((repeat (with_reducible refine hget_ne (by omega) ?_)); first | assumption | (refine hget_eq (by first | omega | (simp only [List.length_set, List.length_append, vdead_len]; omega)))))
        · (first | assumption | ((repeat (with_reducible refine hget_ne (by omega) ?_)); first | assumption | (refine hget_eq (by first | omega | (simp only [List.length_set, List.length_append, vdead_len]; omega)))))
        · intro e he h
          rcases hcon e he h with h | h
          · have := (n2 e he h).2; exact ⟨rfl, by omega⟩
          · exact ⟨rfl, by omega⟩
  · intro hall
    have hall' : ∀ e, e ∈ ts → seen.contains e.2.2 = true := by
      intro e he
      cases hc : seen.contains e.2.2 with
      | true => rfl
      | false =>
        have := hall (.str e.1, .int .i64 e.2.1, e.2.2) (List.mem_map.2 ⟨e, he, rfl⟩) hc
        have h4 := hi.lt e he
        simp only at this
        omega
    refine Wk ?_
    refine se_retP (v := .tup [.int .i64 n, .bool is]) rfl rfl rfl (k _ n is keep ⟨?_, ?_⟩)
    · intro hM
      subst hM
      have : ts = [] := by
        have := hp.length_eq; rw [nl_len] at this; exact List.length_eq_zero_iff.1 this
      subst this
      cases is with
      | false => exact ⟨(n0 rfl).1, rfl⟩
      | true => obtain ⟨e, he, _⟩ := n1 rfl; cases he
    · intro hM
      have hex : ∃ e, e ∈ ts := by
        cases ts with
        | nil => exact (hM (List.Perm.nil_eq hp).symm).elim
        | cons e l => exact ⟨e, List.mem_cons_self⟩
      obtain ⟨e, he⟩ := hex
      have hist := (n2 e he (hall' e he)).1
      subst hist
      refine ⟨rfl, ?_, ?_⟩
      · obtain ⟨e, he, h⟩ := n1 rfl
        exact ⟨_, hp.mem_iff.1 (List.mem_map.2 ⟨e, he, rfl⟩), h⟩
      · intro x hx
        obtain ⟨y, hy, rfl⟩ := List.mem_map.1 (hp.mem_iff.2 hx)
        exact (n2 y hy (hall' y hy)).2
end Go.Proofs.Ytdkjcadffhnjgaa
