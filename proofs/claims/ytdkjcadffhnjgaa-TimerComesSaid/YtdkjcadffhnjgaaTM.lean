/- Timers: the state, in plain lists; what the small functions do. -/
import Derived.Test.YtdkjcadffhnjgaaVB
import Derived.Test.YtdkjcadffhnjgaaTF
namespace Go.Proofs.Ytdkjcadffhnjgaa
open Go Go.V
set_option maxRecDepth 10000

abbrev TEnt := List UInt8 × Int × Nat
abbrev TM := List (List UInt8 × Int)
def ents (ts : List TEnt) : Ents := ts.map fun e => (.str e.1, .int .i64 e.2.1, e.2.2)
def nl (ts : List TEnt) : TM := ts.map fun e => (e.1, e.2.1)
structure TInv (ts : List TEnt) (clock : Nat) : Prop where
  names : (ts.map (·.1)).Nodup
  borns : (ts.map (·.2.2)).Nodup
  lt : ∀ e, e ∈ ts → e.2.2 < clock
  left : ∀ e, e ∈ ts → 1 ≤ e.2.1 ∧ e.2.1 ≤ 9223372036854775807

/-- The timers at a place of the heap. -/
structure Tm (σ : VHeap) (bid bg mid mg : Nat) (M : TM) : Prop where
  ne : bid ≠ mid
  box : vGet σ bid bg = some (.box [.map mid mg] false)
  map : ∃ ts clock, vGet σ mid mg = some (.map (ents ts) clock) ∧ TInv ts clock ∧ (nl ts).Perm M

theorem Tm.keep {σ σ' : VHeap} {bid bg mid mg : Nat} {M : TM} (h : Tm σ bid bg mid mg M) (k : Keep [] σ σ') : Tm σ' bid bg mid mg M :=
  ⟨h.ne, k.get h.box (by simp), let ⟨ts, c, h1, h2⟩ := h.map; ⟨ts, c, k.get h1 (by simp), h2⟩⟩

theorem look_cases (name : List UInt8) (ts : List TEnt) :
    (∃ i left b, ts[i]? = some (name, left, b) ∧ V.look (.str name) (ents ts) = some (some (i, .int .i64 left, b))) ∨ ((∀ e, e ∈ ts → e.1 ≠ name) ∧ V.look (.str name) (ents ts) = some none) := by
  induction ts with
  | nil => exact .inr ⟨by simp, rfl⟩
  | cons e ts ih =>
    obtain ⟨nm, l, b⟩ := e
    by_cases h : name = nm
    · subst h
      exact .inl ⟨0, l, b, rfl, by simp [ents, V.look, V.keyEq]⟩
    · rcases ih with ⟨i, left, b', h1, h2⟩ | ⟨h1, h2⟩
      · refine .inl ⟨i + 1, left, b', by simpa using h1, ?_⟩
        have : V.keyEq (.str name) (.str nm) = some false := by simp [V.keyEq, h]
        simp only [ents, List.map_cons, V.look, this]
        show Option.map _ (V.look (.str name) (ents ts)) = _
        rw [h2]; rfl
      · refine .inr ⟨?_, ?_⟩
        · intro e he
          rcases List.mem_cons.1 he with rfl | he
          · exact fun e => h e.symm
          · exact h1 e he
        · have : V.keyEq (.str name) (.str nm) = some false := by simp [V.keyEq, h]
          simp only [ents, List.map_cons, V.look, this]
          show Option.map _ (V.look (.str name) (ents ts)) = _
          rw [h2]; rfl
theorem ents_len (ts : List TEnt) : (ents ts).length = ts.length := by simp [ents]
theorem nl_len (ts : List TEnt) : (nl ts).length = ts.length := by simp [nl]
theorem ents_set (ts : List TEnt) (i : Nat) (nm : List UInt8) (l : Int) (b : Nat) : (ents ts).set i (.str nm, .int .i64 l, b) = ents (ts.set i (nm, l, b)) := by
  simp [ents, List.map_set]
theorem ents_app (ts : List TEnt) (nm : List UInt8) (l : Int) (b : Nat) : ents ts ++ [(.str nm, .int .i64 l, b)] = ents (ts ++ [(nm, l, b)]) := by
  simp [ents]

def mput (name : List UInt8) (n : Int) (M : TM) : TM := (name, n) :: M.filter fun e => e.1 != name
def mhas (name : List UInt8) (M : TM) : Bool := M.any fun e => e.1 == name
theorem mhas_perm {name : List UInt8} {M M' : TM} (h : M.Perm M') : mhas name M = mhas name M' := by
  unfold mhas; rw [Bool.eq_iff_iff]; simp only [List.any_eq_true]
  exact ⟨fun ⟨x, h1, h2⟩ => ⟨x, h.mem_iff.1 h1, h2⟩, fun ⟨x, h1, h2⟩ => ⟨x, h.mem_iff.2 h1, h2⟩⟩
theorem mput_perm {name : List UInt8} {n : Int} {M M' : TM} (h : M.Perm M') : (mput name n M).Perm (mput name n M') := (h.filter _).cons _

/-- One place of a list without doubles. -/
theorem set_perm : ∀ (ts : List TEnt) (i : Nat) (name : List UInt8) (l n : Int) (b : Nat), (ts.map (·.1)).Nodup → ts[i]? = some (name, l, b) → (nl (ts.set i (name, n, b))).Perm (mput name n (nl ts)) := by
  intro ts
  induction ts with
  | nil => intro i name l n b _ h; simp at h
  | cons e ts ih =>
    intro i name l n b hd h
    rw [List.map_cons, List.nodup_cons] at hd
    cases i with
    | zero =>
      simp at h; subst h
      have : (nl ts).filter (fun e => e.1 != name) = nl ts := by
        rw [List.filter_eq_self]
        intro a ha
        simp only [nl, List.mem_map] at ha
        obtain ⟨x, hx, rfl⟩ := ha
        simp only [bne_iff_ne, ne_eq]
        intro h; exact hd.1 (List.mem_map.2 ⟨x, hx, h⟩)
      simp only [List.set_cons_zero, nl, List.map_cons, mput, List.filter_cons]
      simp only [bne_self_eq_false, Bool.false_eq_true, if_false]
      show List.Perm ((name, n) :: nl ts) ((name, n) :: (nl ts).filter (fun e => e.1 != name))
      rw [this]
    | succ i =>
      simp at h
      have hne : e.1 ≠ name := by
        intro he; exact hd.1 (List.mem_map.2 ⟨_, List.mem_of_getElem? h, he.symm⟩)
      have := ih i name l n b hd.2 h
      simp only [List.set_cons_succ, nl, List.map_cons, mput, List.filter_cons]
      have hb : (e.1 != name) = true := by simpa using hne
      simp only [hb, if_true]
      exact (this.cons _).trans (List.Perm.swap _ _ _)
theorem TInv.set {ts : List TEnt} {clock i b : Nat} {name : List UInt8} {l n : Int} (h : TInv ts clock) (k : ts[i]? = some (name, l, b)) (h1 : 1 ≤ n) (h2 : n ≤ 9223372036854775807) : TInv (ts.set i (name, n, b)) clock := by
  have e1 : (ts.set i (name, n, b)).map (·.1) = ts.map (·.1) := by
    rw [List.map_set]; apply List.ext_getElem?; intro j
    by_cases e : i = j
    · subst e; rw [List.getElem?_set_self (by simpa using (List.getElem?_eq_some_iff.1 k).1)]; simp [k]
    · rw [List.getElem?_set_ne e]
  have e2 : (ts.set i (name, n, b)).map (·.2.2) = ts.map (·.2.2) := by
    rw [List.map_set]; apply List.ext_getElem?; intro j
    by_cases e : i = j
    · subst e; rw [List.getElem?_set_self (by simpa using (List.getElem?_eq_some_iff.1 k).1)]; simp [k]
    · rw [List.getElem?_set_ne e]
  refine ⟨by rw [e1]; exact h.names, by rw [e2]; exact h.borns, ?_, ?_⟩
  · intro e he
    rcases List.mem_or_eq_of_mem_set he with he | rfl
    · exact h.lt e he
    · have := h.lt _ (List.mem_of_getElem? k); exact this
  · intro e he
    rcases List.mem_or_eq_of_mem_set he with he | rfl
    · exact h.left e he
    · exact ⟨h1, h2⟩
theorem TInv.app {ts : List TEnt} {clock : Nat} {name : List UInt8} {n : Int} (h : TInv ts clock) (k : ∀ e, e ∈ ts → e.1 ≠ name) (h1 : 1 ≤ n) (h2 : n ≤ 9223372036854775807) : TInv (ts ++ [(name, n, clock)]) (clock + 1) := by
  refine ⟨?_, ?_, ?_, ?_⟩
  · rw [List.map_append, List.nodup_append]
    refine ⟨h.names, by simp, ?_⟩
    intro a ha b hb
    simp at hb; subst hb
    obtain ⟨e, he, rfl⟩ := List.mem_map.1 ha
    exact k e he
  · rw [List.map_append, List.nodup_append]
    refine ⟨h.borns, by simp, ?_⟩
    intro a ha b hb
    simp at hb
    obtain ⟨e, he, rfl⟩ := List.mem_map.1 ha
    have := h.lt e he
    omega
  · intro e he
    rcases List.mem_append.1 he with he | he
    · have := h.lt e he; omega
    · simp at he; subst he; show clock < clock + 1; omega
  · intro e he
    rcases List.mem_append.1 he with he | he
    · exact h.left e he
    · simp at he; subst he; exact ⟨h1, h2⟩
theorem app_perm {ts : List TEnt} {name : List UInt8} {n : Int} {b : Nat} (k : ∀ e, e ∈ ts → e.1 ≠ name) : (nl (ts ++ [(name, n, b)])).Perm (mput name n (nl ts)) := by
  have : (nl ts).filter (fun e => e.1 != name) = nl ts := by
    rw [List.filter_eq_self]
    intro a ha
    simp only [nl, List.mem_map] at ha
    obtain ⟨x, hx, rfl⟩ := ha
    simpa using k x hx
  unfold mput; rw [this]
  simp only [nl, List.map_append, List.map_cons, List.map_nil]
  exact List.perm_append_comm
theorem has_of_at {ts : List TEnt} {i : Nat} {name : List UInt8} {l : Int} {b : Nat} (h : ts[i]? = some (name, l, b)) : mhas name (nl ts) = true := by
  unfold mhas; rw [List.any_eq_true]
  exact ⟨(name, l), List.mem_map.2 ⟨_, List.mem_of_getElem? h, rfl⟩, by simp⟩
theorem has_of_no {ts : List TEnt} {name : List UInt8} (h : ∀ e, e ∈ ts → e.1 ≠ name) : mhas name (nl ts) = false := by
  unfold mhas; rw [List.any_eq_false]
  intro x hx
  obtain ⟨e, he, rfl⟩ := List.mem_map.1 hx
  simpa using h e he

/-- What Start tells. -/
def startR (name : List UInt8) (n : Int) (M : TM) : Int := if n < 1 then 1 else if mhas name M = false ∧ 32 ≤ M.length then 6 else 0

theorem tNew {σ : VHeap} {Post : KP} (k : ∀ σ' bid mid mg, Keep [] σ σ' → σ.length ≤ bid → σ.length ≤ mid → Tm σ' bid 1 mid mg [] → Post (.ptr bid 1 0) σ') : T Try.prog 8 [] σ Post := by
  refine T8 (sf (by decide) ?_)
  show vrun _ _ vb8 _ (σ ++ vdead 2) _
  unfold vb8
  refine Wk ?_
  refine se_retP rfl rfl rfl (k _ (σ.length + 1) (σ.length + 0) 1 ?_ (by omega) (by omega) ⟨by omega, ?_, [], 0, ?_, ⟨by simp, by simp, by simp, by simp⟩, by simp [nl]⟩)
  · exact (((Keep.refl _ _).app _).set (.inr (by omega))).set (.inr (by omega))
  · (first | assumption | ((repeat (with_reducible refine hget_ne (by omega) ?_)); first | assumption | (refine hget_eq (by first | omega | (simp only [List.length_set, List.length_append, vdead_len]; omega)))))
  · (first | assumption | ((repeat (with_reducible refine hget_ne (by omega) ?_)); first | assumption | (refine hget_eq (by first | omega | (simp only [List.length_set, List.length_append, vdead_len]; omega)))))

theorem tStart {σ : VHeap} {bid bg mid mg : Nat} {M : TM} {name : List UInt8} {n : Int} {Post : KP} (h : Tm σ bid bg mid mg M) (hn : n ≤ 9223372036854775807)
    (k : ∀ σ', Keep [mid] σ σ' → Tm σ' bid bg mid mg (if startR name n M = 0 then mput name n M else M) → Post (.int .i64 (startR name n M)) σ') : T Try.prog 9 [.ptr bid bg 0, .str name, .int .i64 n] σ Post := by
  obtain ⟨hne, h1, ts, clock, h2, hi, hp⟩ := h
  have h1' := vGet_app (τ := vdead 0) h1
  have h2' := vGet_app (τ := vdead 0) h2
  have hml := vGet_lt h2
  have hlen : M.length = ts.length := by rw [← hp.length_eq, nl_len]
  refine T9 (sf (by show 3 ≤ 38; omega) ?_)
  show vrun _ _ vb9 _ (σ ++ vdead 0) _
  unfold vb9
  rcases look_cases name ts with ⟨i, left, b, e1, e2⟩ | ⟨e1, e2⟩
  · have hh : mhas name M = true := by rw [← mhas_perm hp]; exact has_of_at e1
    refine Wk ?_
    apply st_lookF
    exact rfl
    assumption
    exact rfl
    assumption
    by_cases hn1 : n < 1
    · refine Wk ?_
      have hr : startR name n M = 1 := by simp [startR, hn1]
      rw [hr] at k
      refine se_retP rfl rfl rfl (k _ ((Keep.refl _ _).app _) ⟨hne, h1', ts, clock, h2', hi, ?_⟩)
      simpa using hp
    · refine Wk ?_
      apply st_updPF (k1 := .str name) (v1 := .int .i64 n)
      exact rfl
      exact rfl
      exact rfl
      exact rfl
      assumption
      exact rfl
      assumption
      refine Wk ?_
      have hr : startR name n M = 0 := by simp [startR, hn1, hh]
      rw [hr] at k
      refine se_retP rfl rfl rfl (k _ (((Keep.refl _ _).app _).set (.inl (by simp))) ⟨hne, ?_, ts.set i (name, n, b), clock, ?_, hi.set e1 (by omega) hn, ?_⟩)
      · exact hget_ne (Ne.symm hne) h1'
      · rw [ents_set]; exact hget_eq (by simp; omega)
      · rw [if_pos rfl]; exact (set_perm ts i name left n b hi.names e1).trans (mput_perm hp)
  · have hh : mhas name M = false := by rw [← mhas_perm hp]; exact has_of_no e1
    refine Wk ?_
    apply st_lookN
    exact rfl
    assumption
    exact rfl
    assumption
    by_cases hn1 : n < 1
    · refine Wk ?_
      have hr : startR name n M = 1 := by simp [startR, hn1]
      rw [hr] at k
      refine se_retP rfl rfl rfl (k _ ((Keep.refl _ _).app _) ⟨hne, h1', ts, clock, h2', hi, ?_⟩)
      simpa using hp
    · have hel := ents_len ts
      by_cases hf : 32 ≤ M.length
      · refine Wk ?_
        have hr : startR name n M = 6 := by simp [startR, hn1, hh, hf]
        rw [hr] at k
        refine se_retP rfl rfl rfl (k _ ((Keep.refl _ _).app _) ⟨hne, h1', ts, clock, h2', hi, ?_⟩)
        simpa using hp
      · refine Wk ?_
        apply st_updPN (k1 := .str name) (v1 := .int .i64 n)
        exact rfl
        exact rfl
        exact rfl
        exact rfl
        assumption
        exact rfl
        assumption
        refine Wk ?_
        have hr : startR name n M = 0 := by simp [startR, hn1, hf]
        rw [hr] at k
        refine se_retP rfl rfl rfl (k _ (((Keep.refl _ _).app _).set (.inl (by simp))) ⟨hne, ?_, ts ++ [(name, n, clock)], clock + 1, ?_, hi.app e1 (by omega) hn, ?_⟩)
        · exact hget_ne (Ne.symm hne) h1'
        · rw [ents_app]; exact hget_eq (by simp; omega)
        · rw [if_pos rfl]; exact (app_perm e1).trans (mput_perm hp)
end Go.Proofs.Ytdkjcadffhnjgaa
