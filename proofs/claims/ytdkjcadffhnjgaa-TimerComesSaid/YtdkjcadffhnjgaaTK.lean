/- Timers: Stop, Left, Clear, Tick, Next. -/
import Derived.Test.YtdkjcadffhnjgaaV19
import Derived.Test.YtdkjcadffhnjgaaTM
import Derived.Test.YtdkjcadffhnjgaaShelf
namespace Go.Proofs.Ytdkjcadffhnjgaa
open Go Go.V
set_option maxRecDepth 10000

def mdel (name : List UInt8) (M : TM) : TM := M.filter fun e => e.1 != name
theorem erase_nl : ∀ (ts : List TEnt) (i : Nat) (name : List UInt8) (l : Int) (b : Nat), (ts.map (·.1)).Nodup → ts[i]? = some (name, l, b) → nl (ts.eraseIdx i) = mdel name (nl ts) := by
  intro ts
  induction ts with
  | nil => intro i name l b _ h; simp at h
  | cons e ts ih =>
    intro i name l b hd h
    rw [List.map_cons, List.nodup_cons] at hd
    cases i with
    | zero =>
      simp at h; subst h
      simp only [List.eraseIdx_cons_zero, nl, List.map_cons, mdel, List.filter_cons, bne_self_eq_false, Bool.false_eq_true, if_false]
      symm
      rw [List.filter_eq_self]
      intro a ha
      simp only [List.mem_map] at ha
      obtain ⟨x, hx, rfl⟩ := ha
      simp only [bne_iff_ne, ne_eq]
      intro h; exact hd.1 (List.mem_map.2 ⟨x, hx, h⟩)
    | succ i =>
      simp at h
      have hne : e.1 ≠ name := by
        intro he; exact hd.1 (List.mem_map.2 ⟨_, List.mem_of_getElem? h, he.symm⟩)
      have := ih i name l b hd.2 h
      have hb : (e.1 != name) = true := by simpa using hne
      simp only [List.eraseIdx_cons_succ, nl, List.map_cons, mdel, List.filter_cons, hb, if_true]
      exact congrArg _ this
theorem ents_erase (ts : List TEnt) (i : Nat) : (ents ts).eraseIdx i = ents (ts.eraseIdx i) := by
  induction ts generalizing i with
  | nil => simp [ents]
  | cons e ts ih =>
    cases i with
    | zero => simp [ents]
    | succ i => simp only [ents, List.map_cons, List.eraseIdx_cons_succ]; congr 1; exact ih i
theorem TInv.erase {ts : List TEnt} {clock : Nat} (h : TInv ts clock) (i : Nat) : TInv (ts.eraseIdx i) clock := by
  have hs := List.eraseIdx_sublist ts i
  exact ⟨h.names.sublist (hs.map _), h.borns.sublist (hs.map _), fun e he => h.lt e (hs.subset he), fun e he => h.left e (hs.subset he)⟩
theorem mdel_no {name : List UInt8} {M : TM} (h : mhas name M = false) : mdel name M = M := by
  unfold mdel; rw [List.filter_eq_self]
  unfold mhas at h; rw [List.any_eq_false] at h
  intro a ha; simpa using h a ha

theorem tStop {σ : VHeap} {bid bg mid mg : Nat} {M : TM} {name : List UInt8} {Post : KP} (h : Tm σ bid bg mid mg M)
    (k : ∀ σ', Keep [mid] σ σ' → Tm σ' bid bg mid mg (mdel name M) → Post (.bool (mhas name M)) σ') : T Try.prog 11 [.ptr bid bg 0, .str name] σ Post := by
  obtain ⟨hne, h1, ts, clock, h2, hi, hp⟩ := h
  have h1' := vGet_app (τ := vdead 0) h1
  have h2' := vGet_app (τ := vdead 0) h2
  have hml := vGet_lt h2
  refine T11 (sf (by show 2 ≤ 22; omega) ?_)
  show vrun _ _ vb11 _ (σ ++ vdead 0) _
  unfold vb11
  rcases look_cases name ts with ⟨i, left, b, e1, e2⟩ | ⟨e1, e2⟩
  · have hh : mhas name M = true := by rw [← mhas_perm hp]; exact has_of_at e1
    refine Wk ?_
    apply st_lookF
    exact rfl
    assumption
    exact rfl
    assumption
    refine Wk ?_
    apply st_delF
    exact rfl
    assumption
    exact rfl
    assumption
    refine Wk ?_
    rw [hh] at k
    refine se_retP rfl rfl rfl (k _ (((Keep.refl _ _).app _).set (.inl (by simp))) ⟨hne, ?_, ts.eraseIdx i, clock, ?_, hi.erase i, ?_⟩)
    · exact hget_ne (Ne.symm hne) h1'
    · rw [ents_erase]; exact hget_eq (by simp; omega)
    · rw [erase_nl ts i name left b hi.names e1]; exact hp.filter _
  · have hh : mhas name M = false := by rw [← mhas_perm hp]; exact has_of_no e1
    refine Wk ?_
    apply st_lookN
    exact rfl
    assumption
    exact rfl
    assumption
    refine Wk ?_
    apply st_delN
    exact rfl
    assumption
    exact rfl
    assumption
    refine Wk ?_
    rw [hh] at k
    refine se_retP rfl rfl rfl (k _ (((Keep.refl _ _).app _).set (.inl (by simp))) ⟨hne, ?_, ts, clock, ?_, hi, ?_⟩)
    · exact hget_ne (Ne.symm hne) h1'
    · exact hget_eq (by simp; omega)
    · rw [mdel_no hh]; exact hp

def mget (name : List UInt8) (M : TM) : Option Int := (M.find? fun e => e.1 == name).map (·.2)
theorem uniq {L : TM} {a b : List UInt8 × Int} (hd : (L.map (·.1)).Nodup) (ha : a ∈ L) (hb : b ∈ L) (hab : a.1 = b.1) : a = b := by
  induction L with
  | nil => cases ha
  | cons x L ih =>
    rw [List.map_cons, List.nodup_cons] at hd
    rcases List.mem_cons.1 ha with h1 | h1 <;> rcases List.mem_cons.1 hb with h2 | h2
    · rw [h1, h2]
    · exact (hd.1 (List.mem_map.2 ⟨b, h2, by rw [← hab, h1]⟩)).elim
    · exact (hd.1 (List.mem_map.2 ⟨a, h1, by rw [hab, h2]⟩)).elim
    · exact ih hd.2 h1 h2
theorem mget_of {name : List UInt8} {M : TM} {l : Int} (hd : (M.map (·.1)).Nodup) (h : (name, l) ∈ M) : mget name M = some l := by
  unfold mget
  cases e : M.find? (fun e => e.1 == name) with
  | none => rw [List.find?_eq_none] at e; exact (e _ h (by simp)).elim
  | some y =>
    have hy1 := List.mem_of_find?_eq_some e
    have hy2 := List.find?_some e
    simp at hy2
    rw [uniq hd hy1 h hy2]; rfl
theorem mget_perm {name : List UInt8} {M M' : TM} (hn : (M.map (·.1)).Nodup) (h : M.Perm M') : mget name M = mget name M' := by
  have hn' : (M'.map (·.1)).Nodup := (h.map _).nodup_iff.1 hn
  unfold mget
  congr 1
  cases e1 : M.find? (fun e => e.1 == name) with
  | none =>
    rw [List.find?_eq_none] at e1
    symm; rw [List.find?_eq_none]
    intro x hx; exact e1 x (h.mem_iff.2 hx)
  | some x =>
    have hx1 := List.mem_of_find?_eq_some e1
    have hx2 := List.find?_some e1
    cases e2 : M'.find? (fun e => e.1 == name) with
    | none =>
      rw [List.find?_eq_none] at e2
      exact (e2 x (h.mem_iff.1 hx1) hx2).elim
    | some y =>
      have hy1 := List.mem_of_find?_eq_some e2
      have hy2 := List.find?_some e2
      simp at hx2 hy2
      rw [uniq hn hx1 (h.mem_iff.2 hy1) (by rw [hx2, hy2])]

theorem tLeft {σ : VHeap} {bid bg mid mg : Nat} {M : TM} {name : List UInt8} {Post : KP} (h : Tm σ bid bg mid mg M)
    (k : ∀ σ', Keep [] σ σ' → Post (.tup [.int .i64 ((mget name M).getD 0), .bool (mget name M).isSome]) σ') : T Try.prog 15 [.ptr bid bg 0, .str name] σ Post := by
  obtain ⟨hne, h1, ts, clock, h2, hi, hp⟩ := h
  have h1' := vGet_app (τ := vdead 0) h1
  have h2' := vGet_app (τ := vdead 0) h2
  have hml := vGet_lt h2
  have hnn : ((nl ts).map (·.1)).Nodup := by rw [nl, List.map_map]; exact hi.names
  have hmg := mget_perm (name := name) hnn hp
  refine T15 (sf (by show 2 ≤ _; decide) ?_)
  show vrun _ _ vb15 _ (σ ++ vdead 0) _
  unfold vb15
  rcases look_cases name ts with ⟨i, left, b, e1, e2⟩ | ⟨e1, e2⟩
  · have hh : mget name M = some left := by
      rw [← hmg]
      exact mget_of hnn (List.mem_map.2 ⟨_, List.mem_of_getElem? e1, rfl⟩)
    refine Wk ?_
    apply st_lookF
    exact rfl
    assumption
    exact rfl
    assumption
    refine Wk ?_
    rw [hh] at k
    exact se_retP rfl rfl rfl (k _ ((Keep.refl _ _).app _))
  · have hh : mget name M = none := by
      rw [← hmg]
      unfold mget
      rw [Option.map_eq_none_iff, List.find?_eq_none]
      intro x hx
      obtain ⟨e, he, rfl⟩ := List.mem_map.1 hx
      simpa using e1 e he
    refine Wk ?_
    apply st_lookN
    exact rfl
    assumption
    exact rfl
    assumption
    refine Wk ?_
    rw [hh] at k
    exact se_retP rfl rfl rfl (k _ ((Keep.refl _ _).app _))

theorem tClear {σ : VHeap} {bid bg mid mg : Nat} {M : TM} {Post : KP} (h : Tm σ bid bg mid mg M)
    (k : ∀ σ', Keep [mid] σ σ' → Tm σ' bid bg mid mg [] → Post (.tup []) σ') : T Try.prog 19 [.ptr bid bg 0] σ Post := by
  obtain ⟨hne, h1, ts, clock, h2, hi, hp⟩ := h
  have h1' := vGet_app (τ := vdead 0) h1
  have h2' := vGet_app (τ := vdead 0) h2
  have hml := vGet_lt h2
  refine T19 (sf (by show 1 ≤ _; decide) ?_)
  show vrun _ _ vb19 _ (σ ++ vdead 0) _
  unfold vb19
  refine Wk ?_
  apply st_clearMap
  exact rfl
  assumption
  refine Wk ?_
  refine se_normP rfl rfl rfl (k _ (((Keep.refl _ _).app _).set (.inl (by simp))) ⟨hne, ?_, [], clock, ?_, ⟨by simp, by simp, by simp, by simp⟩, by simp [nl]⟩)
  · exact hget_ne (Ne.symm hne) h1'
  · exact hget_eq (by simp; omega)
end Go.Proofs.Ytdkjcadffhnjgaa
