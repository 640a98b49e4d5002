/- Timers: the plain law of Tick's two loops. -/
import Derived.Test.YtdkjcadffhnjgaaTK
namespace Go.Proofs.Ytdkjcadffhnjgaa
open Go Go.V

def mdue (M : TM) : List (List UInt8) := (M.filter fun e => e.2 == 1).map (·.1)
def mtick (M : TM) : TM := (M.filter fun e => e.2 != 1).map fun e => (e.1, e.2 - 1)
def dec1 (e : TEnt) : TEnt := (e.1, e.2.1 - 1, e.2.2)
def tmap (seen : List Nat) (ts : List TEnt) : List TEnt := ts.map fun e => if seen.contains e.2.2 then dec1 e else e
def duS (seen : List Nat) (ts : List TEnt) : List (List UInt8) := (ts.filter fun e => seen.contains e.2.2 && e.2.1 == 1).map (·.1)

theorem tmap_names (seen : List Nat) (ts : List TEnt) : (tmap seen ts).map (·.1) = ts.map (·.1) := by
  unfold tmap; rw [List.map_map]; apply List.map_congr_left; intro e _; simp only [Function.comp]; split <;> rfl
theorem tmap_borns (seen : List Nat) (ts : List TEnt) : (tmap seen ts).map (·.2.2) = ts.map (·.2.2) := by
  unfold tmap; rw [List.map_map]; apply List.map_congr_left; intro e _; simp only [Function.comp]; split <;> rfl
theorem tmap_nil (ts : List TEnt) : tmap [] ts = ts := by unfold tmap; simp
theorem nodup_idx {α : Type} {l : List α} (h : l.Nodup) : ∀ {i j : Nat} {a : α}, l[i]? = some a → l[j]? = some a → i = j := by
  induction l with
  | nil => intro i j a h1; simp at h1
  | cons x l ih =>
    rw [List.nodup_cons] at h
    intro i j a h1 h2
    cases i <;> cases j
    · rfl
    · simp at h1 h2; subst h1; exact (h.1 (List.mem_of_getElem? h2)).elim
    · simp at h1 h2; subst h2; exact (h.1 (List.mem_of_getElem? h1)).elim
    · simp at h1 h2; rw [ih h.2 h1 h2]

/-- An entry that comes next. -/
theorem next_ent {seen : List Nat} {ts : List TEnt} {k v : PV} {b : Nat} (h : (k, v, b) ∈ ents (tmap seen ts)) (hs : seen.contains b = false) : ∃ (i : Nat) (e : TEnt), ts[i]? = some e ∧ k = .str e.1 ∧ v = .int .i64 e.2.1 ∧ b = e.2.2 := by
  obtain ⟨x, hx, he⟩ := List.mem_map.1 h
  obtain ⟨e, he1, rfl⟩ := List.mem_map.1 hx
  obtain ⟨i, hi⟩ := List.mem_iff_getElem?.1 he1
  by_cases hc : seen.contains e.2.2 = true
  · rw [if_pos hc] at he
    simp only [dec1, Prod.mk.injEq] at he
    rw [← he.2.2, hc] at hs; cases hs
  · rw [if_neg hc] at he
    simp only [Prod.mk.injEq] at he
    exact ⟨i, e, hi, he.1.symm, he.2.1.symm, he.2.2.symm⟩
theorem tmap_at {seen : List Nat} {ts : List TEnt} {i : Nat} {e : TEnt} (h : ts[i]? = some e) (hs : seen.contains e.2.2 = false) : (tmap seen ts)[i]? = some e := by
  unfold tmap; rw [List.getElem?_map, h]; simp only [Option.map_some]; rw [if_neg (by rw [hs]; exact Bool.false_ne_true)]
theorem find_ent {l : List TEnt} (hb : (l.map (·.2.2)).Nodup) {i : Nat} {e : TEnt} (h : l[i]? = some e) : (ents l).find? (fun x => x.2.2 == e.2.2) = some (.str e.1, .int .i64 e.2.1, e.2.2) := by
  induction l generalizing i with
  | nil => simp at h
  | cons x l ih =>
    rw [List.map_cons, List.nodup_cons] at hb
    cases i with
    | zero => simp at h; subst h; simp [ents]
    | succ i =>
      simp at h
      have hne : x.2.2 ≠ e.2.2 := fun he => hb.1 (List.mem_map.2 ⟨_, List.mem_of_getElem? h, he.symm⟩)
      have := ih hb.2 h
      simp only [ents, List.map_cons, List.find?_cons]
      have hb' : (x.2.2 == e.2.2) = false := by simpa using hne
      rw [hb']; exact this
theorem look_at {l : List TEnt} (hn : (l.map (·.1)).Nodup) {i : Nat} {e : TEnt} (h : l[i]? = some e) : V.look (.str e.1) (ents l) = some (some (i, .int .i64 e.2.1, e.2.2)) := by
  rcases look_cases e.1 l with ⟨j, left, b, e1, e2⟩ | ⟨e1, _⟩
  · have : i = j := nodup_idx hn (a := e.1) (by rw [List.getElem?_map, h]; rfl) (by rw [List.getElem?_map, e1]; rfl)
    subst this
    rw [h] at e1; obtain ⟨a, l', b'⟩ := e; cases e1
    exact e2
  · exact (e1 e (List.mem_of_getElem? h) rfl).elim
theorem tmap_step {seen : List Nat} {ts : List TEnt} (hb : (ts.map (·.2.2)).Nodup) {i : Nat} {e : TEnt} (h : ts[i]? = some e) :
    (tmap seen ts).set i (e.1, e.2.1 - 1, e.2.2) = tmap (seen ++ [e.2.2]) ts := by
  apply List.ext_getElem?
  intro j
  by_cases hij : i = j
  · subst hij
    rw [List.getElem?_set_self (by unfold tmap; rw [List.length_map]; exact (List.getElem?_eq_some_iff.1 h).1)]
    unfold tmap; rw [List.getElem?_map, h]; simp [dec1]
  · rw [List.getElem?_set_ne hij]
    unfold tmap; rw [List.getElem?_map, List.getElem?_map]
    cases hj : ts[j]? with
    | none => rfl
    | some x =>
      have hne : x.2.2 ≠ e.2.2 := fun he => hij (nodup_idx hb (a := e.2.2) (by rw [List.getElem?_map, h]; rfl) (by rw [List.getElem?_map, hj]; simp [he]))
      simp [hne]
theorem filter_add {ts : List TEnt} {p q : TEnt → Bool} (hb : (ts.map (·.2.2)).Nodup) {e : TEnt} (he : e ∈ ts) (hp : p e = false) (hq : ∀ x, x ∈ ts → q x = (p x || x.2.2 == e.2.2)) : (ts.filter q).Perm (ts.filter p ++ [e]) := by
  induction ts with
  | nil => cases he
  | cons x ts ih =>
    rw [List.map_cons, List.nodup_cons] at hb
    rcases List.mem_cons.1 he with rfl | he'
    · have e1 : ts.filter q = ts.filter p := by
        apply List.filter_congr
        intro y hy
        rw [hq y (List.mem_cons_of_mem _ hy)]
        have : y.2.2 ≠ e.2.2 := fun h => hb.1 (List.mem_map.2 ⟨y, hy, h⟩)
        simp [this]
      rw [List.filter_cons_of_pos (by rw [hq e List.mem_cons_self]; simp), List.filter_cons_of_neg (by rw [hp]; exact Bool.false_ne_true), e1]
      exact (List.perm_append_comm (l₁ := [e])).trans (List.Perm.refl _) |>.trans (List.Perm.refl _)
    · have hne : x.2.2 ≠ e.2.2 := fun h => hb.1 (List.mem_map.2 ⟨e, he', h.symm⟩)
      have hqx : q x = p x := by rw [hq x List.mem_cons_self]; simp [hne]
      have := ih hb.2 he' fun y hy => hq y (List.mem_cons_of_mem _ hy)
      cases hpx : p x with
      | true => rw [List.filter_cons_of_pos (by rw [hqx, hpx]), List.filter_cons_of_pos hpx]; exact this.cons _
      | false => rw [List.filter_cons_of_neg (by rw [hqx, hpx]; exact Bool.false_ne_true), List.filter_cons_of_neg (by rw [hpx]; exact Bool.false_ne_true)]; exact this
theorem duS_one {seen : List Nat} {ts : List TEnt} (hb : (ts.map (·.2.2)).Nodup) {e : TEnt} (he : e ∈ ts) (hs : seen.contains e.2.2 = false) (h1 : e.2.1 = 1) : (duS (seen ++ [e.2.2]) ts).Perm (duS seen ts ++ [e.1]) := by
  have := (filter_add (p := fun x => seen.contains x.2.2 && x.2.1 == 1) (q := fun x => (seen ++ [e.2.2]).contains x.2.2 && x.2.1 == 1) hb he (by simp only [hs, Bool.false_and]) (fun x hx => by
    by_cases hx2 : x.2.2 = e.2.2
    · have hxe : x = e := by
        obtain ⟨i, hi⟩ := List.mem_iff_getElem?.1 hx
        obtain ⟨j, hj⟩ := List.mem_iff_getElem?.1 he
        have : i = j := nodup_idx hb (a := e.2.2) (by rw [List.getElem?_map, hi]; simp [hx2]) (by rw [List.getElem?_map, hj]; rfl)
        subst this; rw [hi] at hj; exact Option.some.inj hj
      subst hxe; simp [h1]
    · simp [hx2])).map (·.1)
  rw [List.map_append] at this
  exact this
theorem duS_no {seen : List Nat} {ts : List TEnt} (hb : (ts.map (·.2.2)).Nodup) {e : TEnt} (he : e ∈ ts) (h1 : e.2.1 ≠ 1) : duS (seen ++ [e.2.2]) ts = duS seen ts := by
  unfold duS
  congr 1
  apply List.filter_congr
  intro x hx
  by_cases hx2 : x.2.2 = e.2.2
  · have hxe : x = e := by
      obtain ⟨i, hi⟩ := List.mem_iff_getElem?.1 hx
      obtain ⟨j, hj⟩ := List.mem_iff_getElem?.1 he
      have : i = j := nodup_idx hb (a := e.2.2) (by rw [List.getElem?_map, hi]; simp [hx2]) (by rw [List.getElem?_map, hj]; rfl)
      subst this; rw [hi] at hj; exact Option.some.inj hj
    subst hxe; simp [h1]
  · simp [hx2]
theorem seen_len {seen : List Nat} {ts : List TEnt} (hn : seen.Nodup) (hs : ∀ b, b ∈ seen → b ∈ ts.map (·.2.2)) : seen.length ≤ ts.length := by
  have : ∀ (s L : List Nat), s.Nodup → (∀ b, b ∈ s → b ∈ L) → s.length ≤ L.length := by
    intro s
    induction s with
    | nil => intro L _ _; simp
    | cons x s ih =>
      intro L hd h
      rw [List.nodup_cons] at hd
      have h1 := ih (L.erase x) hd.2 fun b hb => (List.mem_erase_of_ne (by rintro rfl; exact hd.1 hb)).2 (h b (List.mem_cons_of_mem _ hb))
      have h2 := h x List.mem_cons_self
      rw [List.length_erase_of_mem h2] at h1
      have := List.length_pos_of_mem h2
      simp only [List.length_cons]; omega
  simpa using this seen _ hn hs

/-- What is left of them when some names are gone. -/
def rest (out : List (List UInt8)) (ts : List TEnt) : List TEnt := ts.filter fun e => !out.contains e.1
theorem erase_rest {ts : List TEnt} {i : Nat} {name : List UInt8} {l : Int} {b : Nat} (hd : (ts.map (·.1)).Nodup) (h : ts[i]? = some (name, l, b)) : ts.eraseIdx i = ts.filter fun e => e.1 != name := by
  induction ts generalizing i with
  | nil => simp at h
  | cons e ts ih =>
    rw [List.map_cons, List.nodup_cons] at hd
    cases i with
    | zero =>
      simp at h; subst h
      rw [List.filter_cons_of_neg (by simp), List.eraseIdx_cons_zero]
      symm; rw [List.filter_eq_self]
      intro a ha
      simp only [bne_iff_ne, ne_eq]
      intro h; exact hd.1 (List.mem_map.2 ⟨a, ha, h⟩)
    | succ i =>
      simp at h
      have hne : e.1 ≠ name := by
        intro he; exact hd.1 (List.mem_map.2 ⟨_, List.mem_of_getElem? h, he.symm⟩)
      rw [List.filter_cons_of_pos (by simpa using hne), List.eraseIdx_cons_succ, ih hd.2 h]
theorem rest_step {out : List (List UInt8)} {i : Nat} {name : List UInt8} {ts : List TEnt} (h : out[i]? = some name) : rest (out.take (i + 1)) ts = (rest (out.take i) ts).filter fun e => e.1 != name := by
  unfold rest
  rw [List.filter_filter]
  apply List.filter_congr
  intro e _
  rw [List.take_add_one, h]
  by_cases hx : e.1 = name <;> simp [hx]
theorem rest_nodup {out : List (List UInt8)} {ts : List TEnt} (h : (ts.map (·.1)).Nodup) : ((rest out ts).map (·.1)).Nodup := h.sublist (List.filter_sublist.map _)

theorem rest_tick {ts : List TEnt} {clock : Nat} {M : TM} {seen : List Nat} {out : List (List UInt8)} (hi : TInv ts clock) (hp : (nl ts).Perm M) (hall : ∀ e, e ∈ ts → seen.contains e.2.2 = true) (ho : out.Perm (duS seen ts)) :
    out.Perm (mdue M) ∧ TInv (rest out (tmap seen ts)) clock ∧ (nl (rest out (tmap seen ts))).Perm (mtick M) := by
  have e1 : duS seen ts = mdue (nl ts) := by
    unfold duS mdue nl
    rw [List.filter_map, List.map_map]
    have : ts.filter (fun e => seen.contains e.2.2 && e.2.1 == 1) = ts.filter ((fun e : List UInt8 × Int => e.2 == 1) ∘ fun e : TEnt => (e.1, e.2.1)) := by
      apply List.filter_congr; intro e he; rw [hall e he]; simp
    rw [this]; rfl
  have e2 : tmap seen ts = ts.map dec1 := by
    unfold tmap; apply List.map_congr_left; intro e he; rw [if_pos (hall e he)]
  have hmem : ∀ e, e ∈ ts → (out.contains e.1 = true ↔ e.2.1 = 1) := by
    intro e he
    rw [List.contains_iff_mem, ho.mem_iff, e1]
    unfold mdue nl
    simp only [List.mem_map, List.mem_filter]
    constructor
    · rintro ⟨x, ⟨⟨y, hy, rfl⟩, h2⟩, h3⟩
      simp only [beq_iff_eq] at h2
      simp only at h3
      obtain ⟨i, hi'⟩ := List.mem_iff_getElem?.1 hy
      obtain ⟨j, hj⟩ := List.mem_iff_getElem?.1 he
      have : i = j := nodup_idx hi.names (a := e.1) (by rw [List.getElem?_map, hi']; simp [h3]) (by rw [List.getElem?_map, hj]; rfl)
      subst this; rw [hi'] at hj; cases hj; exact h2
    · intro h; exact ⟨(e.1, e.2.1), ⟨⟨e, he, rfl⟩, by simp [h]⟩, rfl⟩
  have e3 : rest out (tmap seen ts) = (ts.filter fun e => e.2.1 != 1).map dec1 := by
    unfold rest
    rw [e2, List.filter_map]
    congr 1
    apply List.filter_congr
    intro e he
    have := hmem e he
    show (!out.contains e.1) = (e.2.1 != 1)
    cases hc : out.contains e.1 with
    | true => simp [this.1 hc]
    | false =>
      have : e.2.1 ≠ 1 := fun h => by rw [this.2 h] at hc; cases hc
      simp [this]
  refine ⟨ho.trans (e1 ▸ (hp.filter _).map _), ⟨?_, ?_, ?_, ?_⟩, ?_⟩
  · rw [e3, List.map_map]; exact hi.names.sublist (List.filter_sublist.map _)
  · rw [e3, List.map_map]; exact hi.borns.sublist (List.filter_sublist.map _)
  · rw [e3]; intro e he
    obtain ⟨x, hx, rfl⟩ := List.mem_map.1 he
    exact hi.lt x (List.mem_filter.1 hx).1
  · rw [e3]; intro e he
    obtain ⟨x, hx, rfl⟩ := List.mem_map.1 he
    have h1 := hi.left x (List.mem_filter.1 hx).1
    have h2 := (List.mem_filter.1 hx).2
    simp only [bne_iff_ne, ne_eq] at h2
    show 1 ≤ x.2.1 - 1 ∧ x.2.1 - 1 ≤ _
    omega
  · rw [e3]
    have : nl ((ts.filter fun e => e.2.1 != 1).map dec1) = mtick (nl ts) := by
      unfold nl mtick
      rw [List.filter_map, List.map_map, List.map_map]; rfl
    rw [this]
    exact (hp.filter _).map _
end Go.Proofs.Ytdkjcadffhnjgaa
