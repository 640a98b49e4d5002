/- Timers: the state, in plain lists; the plain law of Tick's two loops. -/
import Derived.Test.YtocnjlfnapefjaaGreatDoorVP
import Derived.Test.YtocnjlfnapefjaaGreatDoorED
namespace Go.Proofs.YtocnjlfnapefjaaGreatDoor
open Go Go.V
set_option maxRecDepth 10000
set_option linter.unusedVariables false

abbrev TEnt := List UInt8 × Int × Nat
abbrev TM := List (List UInt8 × Int)
def ents (ts : List TEnt) : Ents := ts.map fun e => (.str e.1, .int .i64 e.2.1, e.2.2)
def nl (ts : List TEnt) : TM := ts.map fun e => (e.1, e.2.1)
structure TInv (ts : List TEnt) (clock : Nat) : Prop where
  names : (ts.map (·.1)).Nodup
  borns : (ts.map (·.2.2)).Nodup
  lt : ∀ e, e ∈ ts → e.2.2 < clock
  left : ∀ e, e ∈ ts → 1 ≤ e.2.1 ∧ e.2.1 ≤ 9223372036854775807

/-- The timers at a place of the heap. -/
structure Tm (σ : VHeap) (bid bg mid mg : Nat) (M : TM) : Prop where
  ne : bid ≠ mid
  box : vGet σ bid bg = some (.box [.map mid mg] false)
  map : ∃ ts clock, vGet σ mid mg = some (.map (ents ts) clock) ∧ TInv ts clock ∧ (nl ts).Perm M

theorem Tm.keep {σ σ' : VHeap} {bid bg mid mg : Nat} {M : TM} (h : Tm σ bid bg mid mg M) (k : Keep [] σ σ') : Tm σ' bid bg mid mg M :=
  ⟨h.ne, k.get h.box (by simp), let ⟨ts, c, h1, h2⟩ := h.map; ⟨ts, c, k.get h1 (by simp), h2⟩⟩

theorem look_cases (name : List UInt8) (ts : List TEnt) :
    (∃ i left b, ts[i]? = some (name, left, b) ∧ V.look (.str name) (ents ts) = some (some (i, .int .i64 left, b))) ∨ ((∀ e, e ∈ ts → e.1 ≠ name) ∧ V.look (.str name) (ents ts) = some none) := by
  induction ts with
  | nil => exact .inr ⟨by simp, rfl⟩
  | cons e ts ih =>
    obtain ⟨nm, l, b⟩ := e
    by_cases h : name = nm
    · subst h
      exact .inl ⟨0, l, b, rfl, by simp [ents, V.look, V.keyEq]⟩
    · rcases ih with ⟨i, left, b', h1, h2⟩ | ⟨h1, h2⟩
      · refine .inl ⟨i + 1, left, b', by simpa using h1, ?_⟩
        have : V.keyEq (.str name) (.str nm) = some false := by simp [V.keyEq, h]
        simp only [ents, List.map_cons, V.look, this]
        show Option.map _ (V.look (.str name) (ents ts)) = _
        rw [h2]; rfl
      · refine .inr ⟨?_, ?_⟩
        · intro e he
          rcases List.mem_cons.1 he with rfl | he
          · exact fun e => h e.symm
          · exact h1 e he
        · have : V.keyEq (.str name) (.str nm) = some false := by simp [V.keyEq, h]
          simp only [ents, List.map_cons, V.look, this]
          show Option.map _ (V.look (.str name) (ents ts)) = _
          rw [h2]; rfl
theorem ents_len (ts : List TEnt) : (ents ts).length = ts.length := by simp [ents]
theorem nl_len (ts : List TEnt) : (nl ts).length = ts.length := by simp [nl]
theorem ents_set (ts : List TEnt) (i : Nat) (nm : List UInt8) (l : Int) (b : Nat) : (ents ts).set i (.str nm, .int .i64 l, b) = ents (ts.set i (nm, l, b)) := by
  simp [ents, List.map_set]
theorem ents_app (ts : List TEnt) (nm : List UInt8) (l : Int) (b : Nat) : ents ts ++ [(.str nm, .int .i64 l, b)] = ents (ts ++ [(nm, l, b)]) := by
  simp [ents]

def mput (name : List UInt8) (n : Int) (M : TM) : TM := (name, n) :: M.filter fun e => e.1 != name
def mhas (name : List UInt8) (M : TM) : Bool := M.any fun e => e.1 == name
theorem mhas_perm {name : List UInt8} {M M' : TM} (h : M.Perm M') : mhas name M = mhas name M' := by
  unfold mhas; rw [Bool.eq_iff_iff]; simp only [List.any_eq_true]
  exact ⟨fun ⟨x, h1, h2⟩ => ⟨x, h.mem_iff.1 h1, h2⟩, fun ⟨x, h1, h2⟩ => ⟨x, h.mem_iff.2 h1, h2⟩⟩
theorem mput_perm {name : List UInt8} {n : Int} {M M' : TM} (h : M.Perm M') : (mput name n M).Perm (mput name n M') := (h.filter _).cons _

/-- One place of a list without doubles. -/
theorem set_perm : ∀ (ts : List TEnt) (i : Nat) (name : List UInt8) (l n : Int) (b : Nat), (ts.map (·.1)).Nodup → ts[i]? = some (name, l, b) → (nl (ts.set i (name, n, b))).Perm (mput name n (nl ts)) := by
  intro ts
  induction ts with
  | nil => intro i name l n b _ h; simp at h
  | cons e ts ih =>
    intro i name l n b hd h
    rw [List.map_cons, List.nodup_cons] at hd
    cases i with
    | zero =>
      simp at h; subst h
      have : (nl ts).filter (fun e => e.1 != name) = nl ts := by
        rw [List.filter_eq_self]
        intro a ha
        simp only [nl, List.mem_map] at ha
        obtain ⟨x, hx, rfl⟩ := ha
        simp only [bne_iff_ne, ne_eq]
        intro h; exact hd.1 (List.mem_map.2 ⟨x, hx, h⟩)
      simp only [List.set_cons_zero, nl, List.map_cons, mput, List.filter_cons]
      simp only [bne_self_eq_false, Bool.false_eq_true, if_false]
      show List.Perm ((name, n) :: nl ts) ((name, n) :: (nl ts).filter (fun e => e.1 != name))
      rw [this]
    | succ i =>
      simp at h
      have hne : e.1 ≠ name := by
        intro he; exact hd.1 (List.mem_map.2 ⟨_, List.mem_of_getElem? h, he.symm⟩)
      have := ih i name l n b hd.2 h
      simp only [List.set_cons_succ, nl, List.map_cons, mput, List.filter_cons]
      have hb : (e.1 != name) = true := by simpa using hne
      simp only [hb, if_true]
      exact (this.cons _).trans (List.Perm.swap _ _ _)
theorem TInv.set {ts : List TEnt} {clock i b : Nat} {name : List UInt8} {l n : Int} (h : TInv ts clock) (k : ts[i]? = some (name, l, b)) (h1 : 1 ≤ n) (h2 : n ≤ 9223372036854775807) : TInv (ts.set i (name, n, b)) clock := by
  have e1 : (ts.set i (name, n, b)).map (·.1) = ts.map (·.1) := by
    rw [List.map_set]; apply List.ext_getElem?; intro j
    by_cases e : i = j
    · subst e; rw [List.getElem?_set_self (by simpa using (List.getElem?_eq_some_iff.1 k).1)]; simp [k]
    · rw [List.getElem?_set_ne e]
  have e2 : (ts.set i (name, n, b)).map (·.2.2) = ts.map (·.2.2) := by
    rw [List.map_set]; apply List.ext_getElem?; intro j
    by_cases e : i = j
    · subst e; rw [List.getElem?_set_self (by simpa using (List.getElem?_eq_some_iff.1 k).1)]; simp [k]
    · rw [List.getElem?_set_ne e]
  refine ⟨by rw [e1]; exact h.names, by rw [e2]; exact h.borns, ?_, ?_⟩
  · intro e he
    rcases List.mem_or_eq_of_mem_set he with he | rfl
    · exact h.lt e he
    · have := h.lt _ (List.mem_of_getElem? k); exact this
  · intro e he
    rcases List.mem_or_eq_of_mem_set he with he | rfl
    · exact h.left e he
    · exact ⟨h1, h2⟩
theorem TInv.app {ts : List TEnt} {clock : Nat} {name : List UInt8} {n : Int} (h : TInv ts clock) (k : ∀ e, e ∈ ts → e.1 ≠ name) (h1 : 1 ≤ n) (h2 : n ≤ 9223372036854775807) : TInv (ts ++ [(name, n, clock)]) (clock + 1) := by
  refine ⟨?_, ?_, ?_, ?_⟩
  · rw [List.map_append, List.nodup_append]
    refine ⟨h.names, by simp, ?_⟩
    intro a ha b hb
    simp at hb; subst hb
    obtain ⟨e, he, rfl⟩ := List.mem_map.1 ha
    exact k e he
  · rw [List.map_append, List.nodup_append]
    refine ⟨h.borns, by simp, ?_⟩
    intro a ha b hb
    simp at hb
    obtain ⟨e, he, rfl⟩ := List.mem_map.1 ha
    have := h.lt e he
    omega
  · intro e he
    rcases List.mem_append.1 he with he | he
    · have := h.lt e he; omega
    · simp at he; subst he; show clock < clock + 1; omega
  · intro e he
    rcases List.mem_append.1 he with he | he
    · exact h.left e he
    · simp at he; subst he; exact ⟨h1, h2⟩
theorem app_perm {ts : List TEnt} {name : List UInt8} {n : Int} {b : Nat} (k : ∀ e, e ∈ ts → e.1 ≠ name) : (nl (ts ++ [(name, n, b)])).Perm (mput name n (nl ts)) := by
  have : (nl ts).filter (fun e => e.1 != name) = nl ts := by
    rw [List.filter_eq_self]
    intro a ha
    simp only [nl, List.mem_map] at ha
    obtain ⟨x, hx, rfl⟩ := ha
    simpa using k x hx
  unfold mput; rw [this]
  simp only [nl, List.map_append, List.map_cons, List.map_nil]
  exact List.perm_append_comm
theorem has_of_at {ts : List TEnt} {i : Nat} {name : List UInt8} {l : Int} {b : Nat} (h : ts[i]? = some (name, l, b)) : mhas name (nl ts) = true := by
  unfold mhas; rw [List.any_eq_true]
  exact ⟨(name, l), List.mem_map.2 ⟨_, List.mem_of_getElem? h, rfl⟩, by simp⟩
theorem has_of_no {ts : List TEnt} {name : List UInt8} (h : ∀ e, e ∈ ts → e.1 ≠ name) : mhas name (nl ts) = false := by
  unfold mhas; rw [List.any_eq_false]
  intro x hx
  obtain ⟨e, he, rfl⟩ := List.mem_map.1 hx
  simpa using h e he

/-- What Start tells. -/
def startR (name : List UInt8) (n : Int) (M : TM) : Int := if n < 1 then 1 else if mhas name M = false ∧ 32 ≤ M.length then 6 else 0


def mdel (name : List UInt8) (M : TM) : TM := M.filter fun e => e.1 != name
theorem erase_nl : ∀ (ts : List TEnt) (i : Nat) (name : List UInt8) (l : Int) (b : Nat), (ts.map (·.1)).Nodup → ts[i]? = some (name, l, b) → nl (ts.eraseIdx i) = mdel name (nl ts) := by
  intro ts
  induction ts with
  | nil => intro i name l b _ h; simp at h
  | cons e ts ih =>
    intro i name l b hd h
    rw [List.map_cons, List.nodup_cons] at hd
    cases i with
    | zero =>
      simp at h; subst h
      simp only [List.eraseIdx_cons_zero, nl, List.map_cons, mdel, List.filter_cons, bne_self_eq_false, Bool.false_eq_true, if_false]
      symm
      rw [List.filter_eq_self]
      intro a ha
      simp only [List.mem_map] at ha
      obtain ⟨x, hx, rfl⟩ := ha
      simp only [bne_iff_ne, ne_eq]
      intro h; exact hd.1 (List.mem_map.2 ⟨x, hx, h⟩)
    | succ i =>
      simp at h
      have hne : e.1 ≠ name := by
        intro he; exact hd.1 (List.mem_map.2 ⟨_, List.mem_of_getElem? h, he.symm⟩)
      have := ih i name l b hd.2 h
      have hb : (e.1 != name) = true := by simpa using hne
      simp only [List.eraseIdx_cons_succ, nl, List.map_cons, mdel, List.filter_cons, hb, if_true]
      exact congrArg _ this
theorem ents_erase (ts : List TEnt) (i : Nat) : (ents ts).eraseIdx i = ents (ts.eraseIdx i) := by
  induction ts generalizing i with
  | nil => simp [ents]
  | cons e ts ih =>
    cases i with
    | zero => simp [ents]
    | succ i => simp only [ents, List.map_cons, List.eraseIdx_cons_succ]; congr 1; exact ih i
theorem TInv.erase {ts : List TEnt} {clock : Nat} (h : TInv ts clock) (i : Nat) : TInv (ts.eraseIdx i) clock := by
  have hs := List.eraseIdx_sublist ts i
  exact ⟨h.names.sublist (hs.map _), h.borns.sublist (hs.map _), fun e he => h.lt e (hs.subset he), fun e he => h.left e (hs.subset he)⟩
theorem mdel_no {name : List UInt8} {M : TM} (h : mhas name M = false) : mdel name M = M := by
  unfold mdel; rw [List.filter_eq_self]
  unfold mhas at h; rw [List.any_eq_false] at h
  intro a ha; simpa using h a ha

def mget (name : List UInt8) (M : TM) : Option Int := (M.find? fun e => e.1 == name).map (·.2)
theorem uniq {L : TM} {a b : List UInt8 × Int} (hd : (L.map (·.1)).Nodup) (ha : a ∈ L) (hb : b ∈ L) (hab : a.1 = b.1) : a = b := by
  induction L with
  | nil => cases ha
  | cons x L ih =>
    rw [List.map_cons, List.nodup_cons] at hd
    rcases List.mem_cons.1 ha with h1 | h1 <;> rcases List.mem_cons.1 hb with h2 | h2
    · rw [h1, h2]
    · exact (hd.1 (List.mem_map.2 ⟨b, h2, by rw [← hab, h1]⟩)).elim
    · exact (hd.1 (List.mem_map.2 ⟨a, h1, by rw [hab, h2]⟩)).elim
    · exact ih hd.2 h1 h2
theorem mget_of {name : List UInt8} {M : TM} {l : Int} (hd : (M.map (·.1)).Nodup) (h : (name, l) ∈ M) : mget name M = some l := by
  unfold mget
  cases e : M.find? (fun e => e.1 == name) with
  | none => rw [List.find?_eq_none] at e; exact (e _ h (by simp)).elim
  | some y =>
    have hy1 := List.mem_of_find?_eq_some e
    have hy2 := List.find?_some e
    simp at hy2
    rw [uniq hd hy1 h hy2]; rfl
theorem mget_perm {name : List UInt8} {M M' : TM} (hn : (M.map (·.1)).Nodup) (h : M.Perm M') : mget name M = mget name M' := by
  have hn' : (M'.map (·.1)).Nodup := (h.map _).nodup_iff.1 hn
  unfold mget
  congr 1
  cases e1 : M.find? (fun e => e.1 == name) with
  | none =>
    rw [List.find?_eq_none] at e1
    symm; rw [List.find?_eq_none]
    intro x hx; exact e1 x (h.mem_iff.2 hx)
  | some x =>
    have hx1 := List.mem_of_find?_eq_some e1
    have hx2 := List.find?_some e1
    cases e2 : M'.find? (fun e => e.1 == name) with
    | none =>
      rw [List.find?_eq_none] at e2
      exact (e2 x (h.mem_iff.1 hx1) hx2).elim
    | some y =>
      have hy1 := List.mem_of_find?_eq_some e2
      have hy2 := List.find?_some e2
      simp at hx2 hy2
      rw [uniq hn hx1 (h.mem_iff.2 hy1) (by rw [hx2, hy2])]


def mdue (M : TM) : List (List UInt8) := (M.filter fun e => e.2 == 1).map (·.1)
def mtick (M : TM) : TM := (M.filter fun e => e.2 != 1).map fun e => (e.1, e.2 - 1)
def dec1 (e : TEnt) : TEnt := (e.1, e.2.1 - 1, e.2.2)
def tmap (seen : List Nat) (ts : List TEnt) : List TEnt := ts.map fun e => if seen.contains e.2.2 then dec1 e else e
def duS (seen : List Nat) (ts : List TEnt) : List (List UInt8) := (ts.filter fun e => seen.contains e.2.2 && e.2.1 == 1).map (·.1)

theorem tmap_names (seen : List Nat) (ts : List TEnt) : (tmap seen ts).map (·.1) = ts.map (·.1) := by
  unfold tmap; rw [List.map_map]; apply List.map_congr_left; intro e _; simp only [Function.comp]; split <;> rfl
theorem tmap_borns (seen : List Nat) (ts : List TEnt) : (tmap seen ts).map (·.2.2) = ts.map (·.2.2) := by
  unfold tmap; rw [List.map_map]; apply List.map_congr_left; intro e _; simp only [Function.comp]; split <;> rfl
theorem tmap_nil (ts : List TEnt) : tmap [] ts = ts := by unfold tmap; simp
theorem nodup_idx {α : Type} {l : List α} (h : l.Nodup) : ∀ {i j : Nat} {a : α}, l[i]? = some a → l[j]? = some a → i = j := by
  induction l with
  | nil => intro i j a h1; simp at h1
  | cons x l ih =>
    rw [List.nodup_cons] at h
    intro i j a h1 h2
    cases i <;> cases j
    · rfl
    · simp at h1 h2; subst h1; exact (h.1 (List.mem_of_getElem? h2)).elim
    · simp at h1 h2; subst h2; exact (h.1 (List.mem_of_getElem? h1)).elim
    · simp at h1 h2; rw [ih h.2 h1 h2]

/-- An entry that comes next. -/
theorem next_ent {seen : List Nat} {ts : List TEnt} {k v : PV} {b : Nat} (h : (k, v, b) ∈ ents (tmap seen ts)) (hs : seen.contains b = false) : ∃ (i : Nat) (e : TEnt), ts[i]? = some e ∧ k = .str e.1 ∧ v = .int .i64 e.2.1 ∧ b = e.2.2 := by
  obtain ⟨x, hx, he⟩ := List.mem_map.1 h
  obtain ⟨e, he1, rfl⟩ := List.mem_map.1 hx
  obtain ⟨i, hi⟩ := List.mem_iff_getElem?.1 he1
  by_cases hc : seen.contains e.2.2 = true
  · rw [if_pos hc] at he
    simp only [dec1, Prod.mk.injEq] at he
    rw [← he.2.2, hc] at hs; cases hs
  · rw [if_neg hc] at he
    simp only [Prod.mk.injEq] at he
    exact ⟨i, e, hi, he.1.symm, he.2.1.symm, he.2.2.symm⟩
theorem tmap_at {seen : List Nat} {ts : List TEnt} {i : Nat} {e : TEnt} (h : ts[i]? = some e) (hs : seen.contains e.2.2 = false) : (tmap seen ts)[i]? = some e := by
  unfold tmap; rw [List.getElem?_map, h]; simp only [Option.map_some]; rw [if_neg (by rw [hs]; exact Bool.false_ne_true)]
theorem find_ent {l : List TEnt} (hb : (l.map (·.2.2)).Nodup) {i : Nat} {e : TEnt} (h : l[i]? = some e) : (ents l).find? (fun x => x.2.2 == e.2.2) = some (.str e.1, .int .i64 e.2.1, e.2.2) := by
  induction l generalizing i with
  | nil => simp at h
  | cons x l ih =>
    rw [List.map_cons, List.nodup_cons] at hb
    cases i with
    | zero => simp at h; subst h; simp [ents]
    | succ i =>
      simp at h
      have hne : x.2.2 ≠ e.2.2 := fun he => hb.1 (List.mem_map.2 ⟨_, List.mem_of_getElem? h, he.symm⟩)
      have := ih hb.2 h
      simp only [ents, List.map_cons, List.find?_cons]
      have hb' : (x.2.2 == e.2.2) = false := by simpa using hne
      rw [hb']; exact this
theorem look_at {l : List TEnt} (hn : (l.map (·.1)).Nodup) {i : Nat} {e : TEnt} (h : l[i]? = some e) : V.look (.str e.1) (ents l) = some (some (i, .int .i64 e.2.1, e.2.2)) := by
  rcases look_cases e.1 l with ⟨j, left, b, e1, e2⟩ | ⟨e1, _⟩
  · have : i = j := nodup_idx hn (a := e.1) (by rw [List.getElem?_map, h]; rfl) (by rw [List.getElem?_map, e1]; rfl)
    subst this
    rw [h] at e1; obtain ⟨a, l', b'⟩ := e; cases e1
    exact e2
  · exact (e1 e (List.mem_of_getElem? h) rfl).elim
theorem tmap_step {seen : List Nat} {ts : List TEnt} (hb : (ts.map (·.2.2)).Nodup) {i : Nat} {e : TEnt} (h : ts[i]? = some e) :
    (tmap seen ts).set i (e.1, e.2.1 - 1, e.2.2) = tmap (seen ++ [e.2.2]) ts := by
  apply List.ext_getElem?
  intro j
  by_cases hij : i = j
  · subst hij
    rw [List.getElem?_set_self (by unfold tmap; rw [List.length_map]; exact (List.getElem?_eq_some_iff.1 h).1)]
    unfold tmap; rw [List.getElem?_map, h]; simp [dec1]
  · rw [List.getElem?_set_ne hij]
    unfold tmap; rw [List.getElem?_map, List.getElem?_map]
    cases hj : ts[j]? with
    | none => rfl
    | some x =>
      have hne : x.2.2 ≠ e.2.2 := fun he => hij (nodup_idx hb (a := e.2.2) (by rw [List.getElem?_map, h]; rfl) (by rw [List.getElem?_map, hj]; simp [he]))
      simp [hne]
theorem filter_add {ts : List TEnt} {p q : TEnt → Bool} (hb : (ts.map (·.2.2)).Nodup) {e : TEnt} (he : e ∈ ts) (hp : p e = false) (hq : ∀ x, x ∈ ts → q x = (p x || x.2.2 == e.2.2)) : (ts.filter q).Perm (ts.filter p ++ [e]) := by
  induction ts with
  | nil => cases he
  | cons x ts ih =>
    rw [List.map_cons, List.nodup_cons] at hb
    rcases List.mem_cons.1 he with rfl | he'
    · have e1 : ts.filter q = ts.filter p := by
        apply List.filter_congr
        intro y hy
        rw [hq y (List.mem_cons_of_mem _ hy)]
        have : y.2.2 ≠ e.2.2 := fun h => hb.1 (List.mem_map.2 ⟨y, hy, h⟩)
        simp [this]
      rw [List.filter_cons_of_pos (by rw [hq e List.mem_cons_self]; simp), List.filter_cons_of_neg (by rw [hp]; exact Bool.false_ne_true), e1]
      exact (List.perm_append_comm (l₁ := [e])).trans (List.Perm.refl _) |>.trans (List.Perm.refl _)
    · have hne : x.2.2 ≠ e.2.2 := fun h => hb.1 (List.mem_map.2 ⟨e, he', h.symm⟩)
      have hqx : q x = p x := by rw [hq x List.mem_cons_self]; simp [hne]
      have := ih hb.2 he' fun y hy => hq y (List.mem_cons_of_mem _ hy)
      cases hpx : p x with
      | true => rw [List.filter_cons_of_pos (by rw [hqx, hpx]), List.filter_cons_of_pos hpx]; exact this.cons _
      | false => rw [List.filter_cons_of_neg (by rw [hqx, hpx]; exact Bool.false_ne_true), List.filter_cons_of_neg (by rw [hpx]; exact Bool.false_ne_true)]; exact this
theorem duS_one {seen : List Nat} {ts : List TEnt} (hb : (ts.map (·.2.2)).Nodup) {e : TEnt} (he : e ∈ ts) (hs : seen.contains e.2.2 = false) (h1 : e.2.1 = 1) : (duS (seen ++ [e.2.2]) ts).Perm (duS seen ts ++ [e.1]) := by
  have := (filter_add (p := fun x => seen.contains x.2.2 && x.2.1 == 1) (q := fun x => (seen ++ [e.2.2]).contains x.2.2 && x.2.1 == 1) hb he (by simp only [hs, Bool.false_and]) (fun x hx => by
    by_cases hx2 : x.2.2 = e.2.2
    · have hxe : x = e := by
        obtain ⟨i, hi⟩ := List.mem_iff_getElem?.1 hx
        obtain ⟨j, hj⟩ := List.mem_iff_getElem?.1 he
        have : i = j := nodup_idx hb (a := e.2.2) (by rw [List.getElem?_map, hi]; simp [hx2]) (by rw [List.getElem?_map, hj]; rfl)
        subst this; rw [hi] at hj; exact Option.some.inj hj
      subst hxe; simp [h1]
    · simp [hx2])).map (·.1)
  rw [List.map_append] at this
  exact this
theorem duS_no {seen : List Nat} {ts : List TEnt} (hb : (ts.map (·.2.2)).Nodup) {e : TEnt} (he : e ∈ ts) (h1 : e.2.1 ≠ 1) : duS (seen ++ [e.2.2]) ts = duS seen ts := by
  unfold duS
  congr 1
  apply List.filter_congr
  intro x hx
  by_cases hx2 : x.2.2 = e.2.2
  · have hxe : x = e := by
      obtain ⟨i, hi⟩ := List.mem_iff_getElem?.1 hx
      obtain ⟨j, hj⟩ := List.mem_iff_getElem?.1 he
      have : i = j := nodup_idx hb (a := e.2.2) (by rw [List.getElem?_map, hi]; simp [hx2]) (by rw [List.getElem?_map, hj]; rfl)
      subst this; rw [hi] at hj; exact Option.some.inj hj
    subst hxe; simp [h1]
  · simp [hx2]
theorem seen_len {seen : List Nat} {ts : List TEnt} (hn : seen.Nodup) (hs : ∀ b, b ∈ seen → b ∈ ts.map (·.2.2)) : seen.length ≤ ts.length := by
  have : ∀ (s L : List Nat), s.Nodup → (∀ b, b ∈ s → b ∈ L) → s.length ≤ L.length := by
    intro s
    induction s with
    | nil => intro L _ _; simp
    | cons x s ih =>
      intro L hd h
      rw [List.nodup_cons] at hd
      have h1 := ih (L.erase x) hd.2 fun b hb => (List.mem_erase_of_ne (by rintro rfl; exact hd.1 hb)).2 (h b (List.mem_cons_of_mem _ hb))
      have h2 := h x List.mem_cons_self
      rw [List.length_erase_of_mem h2] at h1
      have := List.length_pos_of_mem h2
      simp only [List.length_cons]; omega
  simpa using this seen _ hn hs

/-- What is left of them when some names are gone. -/
def rest (out : List (List UInt8)) (ts : List TEnt) : List TEnt := ts.filter fun e => !out.contains e.1
theorem erase_rest {ts : List TEnt} {i : Nat} {name : List UInt8} {l : Int} {b : Nat} (hd : (ts.map (·.1)).Nodup) (h : ts[i]? = some (name, l, b)) : ts.eraseIdx i = ts.filter fun e => e.1 != name := by
  induction ts generalizing i with
  | nil => simp at h
  | cons e ts ih =>
    rw [List.map_cons, List.nodup_cons] at hd
    cases i with
    | zero =>
      simp at h; subst h
      rw [List.filter_cons_of_neg (by simp), List.eraseIdx_cons_zero]
      symm; rw [List.filter_eq_self]
      intro a ha
      simp only [bne_iff_ne, ne_eq]
      intro h; exact hd.1 (List.mem_map.2 ⟨a, ha, h⟩)
    | succ i =>
      simp at h
      have hne : e.1 ≠ name := by
        intro he; exact hd.1 (List.mem_map.2 ⟨_, List.mem_of_getElem? h, he.symm⟩)
      rw [List.filter_cons_of_pos (by simpa using hne), List.eraseIdx_cons_succ, ih hd.2 h]
theorem rest_step {out : List (List UInt8)} {i : Nat} {name : List UInt8} {ts : List TEnt} (h : out[i]? = some name) : rest (out.take (i + 1)) ts = (rest (out.take i) ts).filter fun e => e.1 != name := by
  unfold rest
  rw [List.filter_filter]
  apply List.filter_congr
  intro e _
  rw [List.take_add_one, h]
  by_cases hx : e.1 = name <;> simp [hx]
theorem rest_nodup {out : List (List UInt8)} {ts : List TEnt} (h : (ts.map (·.1)).Nodup) : ((rest out ts).map (·.1)).Nodup := h.sublist (List.filter_sublist.map _)

theorem rest_tick {ts : List TEnt} {clock : Nat} {M : TM} {seen : List Nat} {out : List (List UInt8)} (hi : TInv ts clock) (hp : (nl ts).Perm M) (hall : ∀ e, e ∈ ts → seen.contains e.2.2 = true) (ho : out.Perm (duS seen ts)) :
    out.Perm (mdue M) ∧ TInv (rest out (tmap seen ts)) clock ∧ (nl (rest out (tmap seen ts))).Perm (mtick M) := by
  have e1 : duS seen ts = mdue (nl ts) := by
    unfold duS mdue nl
    rw [List.filter_map, List.map_map]
    have : ts.filter (fun e => seen.contains e.2.2 && e.2.1 == 1) = ts.filter ((fun e : List UInt8 × Int => e.2 == 1) ∘ fun e : TEnt => (e.1, e.2.1)) := by
      apply List.filter_congr; intro e he; rw [hall e he]; simp
    rw [this]; rfl
  have e2 : tmap seen ts = ts.map dec1 := by
    unfold tmap; apply List.map_congr_left; intro e he; rw [if_pos (hall e he)]
  have hmem : ∀ e, e ∈ ts → (out.contains e.1 = true ↔ e.2.1 = 1) := by
    intro e he
    rw [List.contains_iff_mem, ho.mem_iff, e1]
    unfold mdue nl
    simp only [List.mem_map, List.mem_filter]
    constructor
    · rintro ⟨x, ⟨⟨y, hy, rfl⟩, h2⟩, h3⟩
      simp only [beq_iff_eq] at h2
      simp only at h3
      obtain ⟨i, hi'⟩ := List.mem_iff_getElem?.1 hy
      obtain ⟨j, hj⟩ := List.mem_iff_getElem?.1 he
      have : i = j := nodup_idx hi.names (a := e.1) (by rw [List.getElem?_map, hi']; simp [h3]) (by rw [List.getElem?_map, hj]; rfl)
      subst this; rw [hi'] at hj; cases hj; exact h2
    · intro h; exact ⟨(e.1, e.2.1), ⟨⟨e, he, rfl⟩, by simp [h]⟩, rfl⟩
  have e3 : rest out (tmap seen ts) = (ts.filter fun e => e.2.1 != 1).map dec1 := by
    unfold rest
    rw [e2, List.filter_map]
    congr 1
    apply List.filter_congr
    intro e he
    have := hmem e he
    show (!out.contains e.1) = (e.2.1 != 1)
    cases hc : out.contains e.1 with
    | true => simp [this.1 hc]
    | false =>
      have : e.2.1 ≠ 1 := fun h => by rw [this.2 h] at hc; cases hc
      simp [this]
  refine ⟨ho.trans (e1 ▸ (hp.filter _).map _), ⟨?_, ?_, ?_, ?_⟩, ?_⟩
  · rw [e3, List.map_map]; exact hi.names.sublist (List.filter_sublist.map _)
  · rw [e3, List.map_map]; exact hi.borns.sublist (List.filter_sublist.map _)
  · rw [e3]; intro e he
    obtain ⟨x, hx, rfl⟩ := List.mem_map.1 he
    exact hi.lt x (List.mem_filter.1 hx).1
  · rw [e3]; intro e he
    obtain ⟨x, hx, rfl⟩ := List.mem_map.1 he
    have h1 := hi.left x (List.mem_filter.1 hx).1
    have h2 := (List.mem_filter.1 hx).2
    simp only [bne_iff_ne, ne_eq] at h2
    show 1 ≤ x.2.1 - 1 ∧ x.2.1 - 1 ≤ _
    omega
  · rw [e3]
    have : nl ((ts.filter fun e => e.2.1 != 1).map dec1) = mtick (nl ts) := by
      unfold nl mtick
      rw [List.filter_map, List.map_map, List.map_map]; rfl
    rw [this]
    exact (hp.filter _).map _
end Go.Proofs.YtocnjlfnapefjaaGreatDoor
