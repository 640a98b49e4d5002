/- Memory of a call's own; calls that leave the heap alone. -/
import Derived.Test.YtdkjcadffhnjgaaDoorVL
namespace Go.V
open Go

/-! ### What leads to no place from one on. -/
mutual
def bel (n : Nat) : PV → Prop
  | .agg cs => belL n cs
  | .tup vs => belL n vs
  | .ptr id _ _ => id < n
  | .rptr id _ _ _ => id < n
  | .iptr cs _ => belL n cs
  | .sl es => belLL n es
  | .row id _ => id < n
  | .bview id _ _ _ => id < n
  | .rview id _ _ _ => id < n
  | .map id _ => id < n
  | .fn _ cap => belL n cap
  | .iter id _ => id < n
  | .bool _ => True
  | .int _ _ => True
  | .str _ => True
  | .nilp => True
  | .nils => True
  | .nilm => True
  | .undef => True
  | .slr es id _ => belLL n es ∧ id < n
def belL (n : Nat) : List PV → Prop
  | [] => True
  | c :: cs => bel n c ∧ belL n cs
def belLL (n : Nat) : List (List PV) → Prop
  | [] => True
  | e :: es => belL n e ∧ belLL n es
end
theorem belL_iff {n : Nat} {cs : List PV} : belL n cs ↔ ∀ c, c ∈ cs → bel n c := by
  induction cs with
  | nil => simp [belL]
  | cons c cs ih => simp [belL, ih]
theorem belLL_iff {n : Nat} {es : List (List PV)} : belLL n es ↔ ∀ e, e ∈ es → belL n e := by
  induction es with
  | nil => simp [belLL]
  | cons c cs ih => simp [belLL, ih]

section
variable {w : World} {σ L : VHeap} {β : Beta}
theorem wr_part {b i : Nat} (h : Wr σ β b i) : Wr (σ ++ L) β b i := by
  obtain ⟨id, g, o, h1, h2, h3⟩ := h
  exact ⟨id, g, o, by rw [List.getElem?_append_left (List.getElem?_eq_some_iff.1 h1).1]; exact h1, h2, h3⟩
theorem owned_part {b : Nat} (h : Owned σ β b) : Owned (σ ++ L) β b := by
  obtain ⟨id, g, o, h1, h2, h3⟩ := h
  exact ⟨id, g, o, by rw [List.getElem?_append_left (List.getElem?_eq_some_iff.1 h1).1]; exact h1, h2, h3⟩
theorem still_part {a : Addr} {n : Nat} {f : Nat → Value} (h : Still w (σ ++ L) β a n f) : Still w σ β a n f := fun j hj => ⟨(h j hj).1, fun hw => (h j hj).2 (wr_part hw)⟩
theorem get_part {id : Nat} {x : Nat × VObj} (hid : id < σ.length) (h : (σ ++ L)[id]? = some x) : σ[id]? = some x := by
  rw [List.getElem?_append_left hid] at h; exact h

theorem Rep.part {c : PV} {v : Value} (h : Rep w (σ ++ L) β c v) (hb : bel σ.length c) : Rep w σ β c v := by
  generalize hσ : σ ++ L = σ' at h
  induction h with
  | bool b => exact .bool b
  | int k n => exact .int k n
  | str s => exact .str s
  | agg cs vs hl _ ih => simp only [bel, belL_iff] at hb; exact .agg cs vs hl fun i c v h1 h2 => ih i c v h1 h2 (hb c (List.mem_of_getElem? h1))
  | tup cs vs hl _ ih => simp only [bel, belL_iff] at hb; exact .tup cs vs hl fun i c v h1 h2 => ih i c v h1 h2 (hb c (List.mem_of_getElem? h1))
  | nilp => exact .nilp
  | stalep id g off g' o p h1 hg => subst hσ; exact .stalep id g off g' o p (get_part hb h1) hg
  | ptr id g off b cs fz h1 hb' => subst hσ; exact .ptr id g off b cs fz (get_part hb h1) hb'
  | stalerp id g i off g' o v h1 hg => subst hσ; exact .stalerp id g i off g' o v (get_part hb h1) hg
  | rptr id g i off b sz es fz h1 hb' => subst hσ; exact .rptr id g i off b sz es fz (get_part hb h1) hb'
  | iptr cells off a a0 f ha hs _ ih => subst hσ; simp only [bel, belL_iff] at hb; exact .iptr cells off a a0 f ha (still_part hs) fun j c hj => ih j c hj (hb c (List.mem_of_getElem? hj))
  | sl es sz n cap a f hn hc hsz ha _ ih =>
    subst hσ
    simp only [bel, belLL_iff] at hb
    exact .sl es sz n cap a f hn hc hsz (fun h0 => let ⟨a0, e0, hs⟩ := ha h0; ⟨a0, e0, still_part hs⟩) fun i e j c h1 h2 => ih i e j c h1 h2 (belL_iff.1 (hb e (List.mem_of_getElem? h1)) c (List.mem_of_getElem? h2))
  | nils => exact .nils
  | stalerow id g g' o p n c h1 hg => subst hσ; exact .stalerow id g g' o p n c (get_part hb h1) hg
  | rownil id g sz fz ad h1 hb' => subst hσ; exact .rownil id g sz fz ad (get_part hb h1) hb'
  | row id g b sz cap es fz arr ty fr h1 hb' hh hc hsz => subst hσ; exact .row id g b sz cap es fz arr ty fr (get_part hb h1) hb' hh hc hsz
  | stalebv id g off len g' o p n c h1 hg => subst hσ; exact .stalebv id g off len g' o p n c (get_part hb h1) hg
  | bview id g off len b cap a cs fz h1 hb' hl hc ha => subst hσ; exact .bview id g off len b cap a cs fz (get_part hb h1) hb' hl hc ha
  | stalerv id g lo len g' o p n c h1 hg => subst hσ; exact .stalerv id g lo len g' o p n c (get_part hb h1) hg
  | rview id g lo len cap sz a es fz h1 hl hc ha => subst hσ; exact .rview id g lo len cap sz a es fz (get_part hb h1) hl hc ha
  | stalemap id g g' o v h1 hg => subst hσ; exact .stalemap id g g' o v (get_part hb h1) hg
  | map id g b es clock h1 hb' => subst hσ; exact .map id g b es clock (get_part hb h1) hb'
  | nilm => exact .nilm
  | fn f cap vs hl _ ih => simp only [bel, belL_iff] at hb; exact .fn f cap vs hl fun i c v h1 h2 => ih i c v h1 h2 (hb c (List.mem_of_getElem? h1))
  | staleit id g g' o v h1 hg => subst hσ; exact .staleit id g g' o v (get_part hb h1) hg
  | siter id g b s pos h1 hb' => subst hσ; exact .siter id g b s pos (get_part hb h1) hb'
  | miter id g b m mg since stepped seen h1 hb' => subst hσ; exact .miter id g b m mg since stepped seen (get_part hb h1) hb'
  | undef v => exact .undef v
  | slr es id g v _ _ i1 i2 =>
    simp only [bel] at hb
    exact .slr es id g v (i1 (by simpa only [bel] using hb.1)) (i2 (by simpa only [bel] using hb.2))
end

/-- Nothing in an object leads to a place from one on. -/
def belO (n : Nat) : VObj → Prop
  | .box cs _ => belL n cs
  | .row _ es _ => belLL n es
  | .map es _ => ∀ e, e ∈ es → bel n e.1 ∧ bel n e.2.1
  | .miter m _ _ _ _ => m < n
  | _ => True
def belH (n : Nat) (σ : VHeap) : Prop := ∀ x, x ∈ σ → belO n x.2

section
variable {P : Program} {w : World} {σ L : VHeap} {β : Beta}
theorem Sim.part (h : Sim (σ ++ L) β w) (hb : belH σ.length σ) : Sim σ β w := by
  refine ⟨fun id g o ho => ?_, fun i j b gi gj oi oj h1 h2 l1 l2 b1 b2 => ?_⟩
  · have hid := (List.getElem?_eq_some_iff.1 ho).1
    have hO := h.obj id g o (by rw [List.getElem?_append_left hid]; exact ho)
    have hbo := hb _ (List.mem_of_getElem? ho)
    cases o with
    | dead => trivial
    | box cs fz =>
      obtain ⟨b, arr, e, hc, hl, hr⟩ := hO
      exact ⟨b, arr, e, hc, hl, fun i c v h1 h2 => (hr i c v h1 h2).part (belL_iff.1 hbo c (List.mem_of_getElem? h1))⟩
    | row sz es fz =>
      rcases hO with hO | ⟨b, arr, e, hc, hl, hs, hr⟩
      · exact .inl hO
      · exact .inr ⟨b, arr, e, hc, hl, hs, fun i e j c v h1 h2 h3 => (hr i e j c v h1 h2 h3).part (belL_iff.1 (belLL_iff.1 hbo e (List.mem_of_getElem? h1)) c (List.mem_of_getElem? h2))⟩
    | map es clock =>
      obtain ⟨b, ms, e, h1, hl, hr⟩ := hO
      exact ⟨b, ms, e, h1, hl, fun i e m h2 h3 => let ⟨r1, r2, r3⟩ := hr i e m h2 h3; ⟨r1.part (hbo e (List.mem_of_getElem? h2)).1, r2.part (hbo e (List.mem_of_getElem? h2)).2, r3⟩⟩
    | siter s pos => exact hO
    | miter m g since stepped seen =>
      obtain ⟨b, e, mb, h1, h2⟩ := hO
      exact ⟨b, e, mb, h1.part hbo, h2⟩
  · exact h.inj i j b gi gj oi oj (by rw [List.getElem?_append_left (List.getElem?_eq_some_iff.1 h1).1]; exact h1) (by rw [List.getElem?_append_left (List.getElem?_eq_some_iff.1 h2).1]; exact h2) l1 l2 b1 b2

theorem Step.part {σ0 : VHeap} {β0 : Beta} {w0 : World} (h : Step σ0 β0 w0 (σ ++ L) β w) (hl : σ0.length ≤ σ.length) : Step σ0 β0 w0 σ β w := by
  refine ⟨h.os, h.tape, h.output, h.size, h.own, h.still, fun b hb ho => h.kept b hb (owned_part ho), fun b i hb ho => h.wr b i hb (wr_part ho), h.shape, fun id g o ho => ?_⟩
  obtain ⟨g', o', h1, h2⟩ := h.gens id g o ho
  exact ⟨g', o', get_part (Nat.lt_of_lt_of_le (List.getElem?_eq_some_iff.1 ho).1 hl) h1, h2⟩

/-- What a call leaves of its own memory need not be told. -/
theorem T.trim [Glob] {f : FuncId} {args : List PV} {Post : KP} (h : T P f args σ fun r h' => ∃ σ' L, h' = σ' ++ L ∧ σ'.length = σ.length ∧ bel σ.length r ∧ belH σ.length σ' ∧ Post r σ') : T P f args σ Post :=
  fun w β vs h1 h2 h3 h4 => (h w β vs h1 h2 h3 h4).mono fun _ _ ⟨v, r, _, β', e1, ⟨σ', L, e2, e3, e4, e5, e6⟩, e7, e8, e9⟩ => by
    subst e2
    rw [← e3] at e4 e5
    exact ⟨v, r, σ', β', e1, e6, e7.part e4, e8.part e5, e9.part (by omega)⟩

theorem Rep.bel {c : PV} {v : Value} (h : Rep w σ β c v) : bel σ.length c := by
  have lt : ∀ {id : Nat} {x : Nat × VObj}, σ[id]? = some x → id < σ.length := fun h => (List.getElem?_eq_some_iff.1 h).1
  induction h with
  | bool b => trivial
  | int k n => trivial
  | str s => trivial
  | agg cs vs hl _ ih =>
    simp only [Go.V.bel, belL_iff]
    intro c hc
    obtain ⟨i, hi⟩ := List.getElem?_of_mem hc
    have h2 : i < vs.size := by rw [← hl]; exact (List.getElem?_eq_some_iff.1 hi).1
    exact ih i c _ hi (Array.getElem?_eq_getElem h2)
  | tup cs vs hl _ ih =>
    simp only [Go.V.bel, belL_iff]
    intro c hc
    obtain ⟨i, hi⟩ := List.getElem?_of_mem hc
    have h2 : i < vs.size := by rw [← hl]; exact (List.getElem?_eq_some_iff.1 hi).1
    exact ih i c _ hi (Array.getElem?_eq_getElem h2)
  | nilp => trivial
  | stalep id g off g' o p h1 hg => exact lt h1
  | ptr id g off b cs fz h1 hb' => exact lt h1
  | stalerp id g i off g' o v h1 hg => exact lt h1
  | rptr id g i off b sz es fz h1 hb' => exact lt h1
  | iptr cells off a a0 f ha hs _ ih =>
    simp only [Go.V.bel, belL_iff]
    intro c hc
    obtain ⟨i, hi⟩ := List.getElem?_of_mem hc
    exact ih i c hi
  | sl es sz n cap a f hn hc hsz ha _ ih =>
    simp only [Go.V.bel, belLL_iff, belL_iff]
    intro e he c hc
    obtain ⟨i, hi⟩ := List.getElem?_of_mem he
    obtain ⟨j, hj⟩ := List.getElem?_of_mem hc
    exact ih i e j c hi hj
  | nils => trivial
  | stalerow id g g' o p n c h1 hg => exact lt h1
  | rownil id g sz fz ad h1 hb' => exact lt h1
  | row id g b sz cap es fz arr ty fr h1 hb' hh hc hsz => exact lt h1
  | stalebv id g off len g' o p n c h1 hg => exact lt h1
  | bview id g off len b cap a cs fz h1 hb' hl hc ha => exact lt h1
  | stalerv id g lo len g' o p n c h1 hg => exact lt h1
  | rview id g lo len cap sz a es fz h1 hl hc ha => exact lt h1
  | stalemap id g g' o v h1 hg => exact lt h1
  | map id g b es clock h1 hb' => exact lt h1
  | nilm => trivial
  | fn f cap vs hl _ ih =>
    simp only [Go.V.bel, belL_iff]
    intro c hc
    obtain ⟨i, hi⟩ := List.getElem?_of_mem hc
    have h2 : i < vs.size := by rw [← hl]; exact (List.getElem?_eq_some_iff.1 hi).1
    exact ih i c _ hi (Array.getElem?_eq_getElem h2)
  | staleit id g g' o v h1 hg => exact lt h1
  | siter id g b s pos h1 hb' => exact lt h1
  | miter id g b m mg since stepped seen h1 hb' => exact lt h1
  | undef v => trivial
  | slr es id g v _ _ i1 i2 =>
    simp only [Go.V.bel] at i1 i2 ⊢
    exact ⟨i1, i2⟩

theorem Sim.belH (h : Sim σ β w) : belH σ.length σ := by
  intro x hx
  obtain ⟨id, hi⟩ := List.getElem?_of_mem hx
  obtain ⟨g, o⟩ := x
  have hO := h.obj id g o hi
  cases o with
  | dead => trivial
  | box cs fz =>
    obtain ⟨b, arr, e, hc, hl, hr⟩ := hO
    refine belL_iff.2 fun c hc => ?_
    obtain ⟨i, hi⟩ := List.getElem?_of_mem hc
    have h2 : i < arr.size := by rw [← hl]; exact (List.getElem?_eq_some_iff.1 hi).1
    exact (hr i c _ hi (Array.getElem?_eq_getElem h2)).bel
  | row sz es fz =>
    rcases hO with ⟨_, rfl⟩ | ⟨b, arr, e, hc, hl, hs, hr⟩
    · trivial
    · refine belLL_iff.2 fun e he => belL_iff.2 fun c hc => ?_
      obtain ⟨i, hi⟩ := List.getElem?_of_mem he
      obtain ⟨j, hj⟩ := List.getElem?_of_mem hc
      have h5 : j < sz := by rw [← hs e he]; exact (List.getElem?_eq_some_iff.1 hj).1
      have h6 := mul_in (List.getElem?_eq_some_iff.1 hi).1 h5
      exact (hr i e j c _ hi hj (Array.getElem?_eq_getElem (by omega))).bel
  | map es clock =>
    obtain ⟨b, ms, e, h1, hl, hr⟩ := hO
    intro e he
    obtain ⟨i, hi⟩ := List.getElem?_of_mem he
    have h2 : i < ms.size := by rw [← hl]; exact (List.getElem?_eq_some_iff.1 hi).1
    obtain ⟨r1, r2, _⟩ := hr i e _ hi (Array.getElem?_eq_getElem h2)
    exact ⟨r1.bel, r2.bel⟩
  | siter s pos => trivial
  | miter m g since stepped seen =>
    obtain ⟨b, e, mb, h1, h2⟩ := hO
    exact h1.bel

/-- What is to be shown at the end of a call's own walk. -/
def TrimP (n : Nat) (Post : KP) : KP := fun r h' => ∃ σ' L, h' = σ' ++ L ∧ σ'.length = n ∧ bel n r ∧ belH n σ' ∧ Post r σ'
theorem T.start [Glob] {f : FuncId} {args : List PV} {Post : KP} (h : belH σ.length σ → (∀ c, c ∈ args → bel σ.length c) → T P f args σ (TrimP σ.length Post)) : T P f args σ Post := by
  intro w β vs h1 h2 h3 h4
  refine T.trim (h h3.belH fun c hc => ?_) w β vs h1 h2 h3 h4
  obtain ⟨i, hi⟩ := List.getElem?_of_mem hc
  have h5 : i < vs.size := by rw [h1]; exact (List.getElem?_eq_some_iff.1 hi).1
  exact (h2 i c _ hi (Array.getElem?_eq_getElem h5)).bel
/-- A call that leaves the heap alone. -/
def U [Glob] (P : Program) (f : FuncId) (args : List PV) (r : PV) : Prop := ∀ (σ : VHeap) (Post : KP), Post r σ → T P f args σ Post
end
end Go.V
