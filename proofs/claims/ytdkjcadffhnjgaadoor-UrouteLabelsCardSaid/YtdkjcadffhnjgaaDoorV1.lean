/- Values of a small language of plain data, its heap, and what it means that a world of the machine bears them. -/
import Derived.WalkKit
import Derived.KernelRfl
namespace Go.V
open Go

inductive PV where
  | bool (b : Bool)
  | int (k : IntKind) (n : Int)
  | str (s : List UInt8)
  | agg (cs : List PV)
  | tup (vs : List PV)
  | nilp
  | ptr (id gen off : Nat)
  | rptr (id gen idx off : Nat)
  | iptr (cells : List PV) (off : Nat)
  | sl (es : List (List PV))
  | nils
  | row (id gen : Nat)
  | bview (id gen off len : Nat)
  | rview (id gen lo len : Nat)
  | map (id gen : Nat)
  | nilm
  | fn (f : FuncId) (cap : List PV)
  | iter (id gen : Nat)
  | undef
  | slr (es : List (List PV)) (id gen : Nat)
  deriving Inhabited

inductive VObj where
  | dead
  | box (cs : List PV) (fz : Bool)
  | row (sz : Nat) (es : List (List PV)) (fz : Bool)
  | map (es : List (PV × PV × Nat)) (clock : Nat)
  | siter (s : List UInt8) (pos : Nat)
  | miter (m g since stepped : Nat) (seen : List Nat)
  deriving Inhabited

abbrev VHeap := List (Nat × VObj)
abbrev Beta := Nat → Option Nat

/-- Of one shape: the same kind and the same length. -/
def VObj.alike : VObj → VObj → Prop
  | .box cs _, .box cs' _ => cs.length = cs'.length
  | .row sz es _, .row sz' es' _ => sz = sz' ∧ es.length = es'.length
  | .map _ _, .map _ _ => True
  | .siter s _, .siter s' _ => s = s'
  | .miter m g since _ _, .miter m' g' since' _ _ => m = m' ∧ g = g' ∧ since = since'
  | .dead, .dead => True
  | _, _ => False

theorem VObj.alike_refl (o : VObj) : o.alike o := by cases o <;> simp [VObj.alike]
theorem VObj.alike_trans {a b c : VObj} (h : a.alike b) (k : b.alike c) : a.alike c := by
  cases a <;> cases b <;> simp_all [VObj.alike] <;> cases c <;> simp_all

/-- May this cell be written? -/
def VObj.may : VObj → Nat → Prop
  | .box _ fz, _ => fz = false
  | .row sz es fz, i => fz = true → es.length * sz ≤ i
  | _, _ => False

def Wr (σ : VHeap) (β : Beta) (b i : Nat) : Prop := ∃ id g o, σ[id]? = some (g, o) ∧ β id = some b ∧ o.may i

def VObj.live : VObj → Prop
  | .dead => False
  | _ => True

def Owned (σ : VHeap) (β : Beta) (b : Nat) : Prop := ∃ id g o, σ[id]? = some (g, o) ∧ β id = some b ∧ o.live

theorem VObj.live_of_may {o : VObj} {i : Nat} (h : o.may i) : o.live := by cases o <;> simp_all [VObj.may, VObj.live]
theorem Wr.owned {σ : VHeap} {β : Beta} {b i : Nat} (h : Wr σ β b i) : Owned σ β b := by
  obtain ⟨id, g, o, h1, h2, h3⟩ := h; exact ⟨id, g, o, h1, h2, VObj.live_of_may h3⟩

/-- A row of cells in memory that nobody writes any more. -/
def Still (w : World) (σ : VHeap) (β : Beta) (a : Addr) (n : Nat) (f : Nat → Value) : Prop :=
  ∀ j, j < n → w.cell? (a.add j) = some (f j) ∧ ¬ Wr σ β a.block (a.add j).off

inductive Rep (w : World) (σ : VHeap) (β : Beta) : PV → Value → Prop where
  | bool (b : Bool) : Rep w σ β (.bool b) (.bool b)
  | int (k : IntKind) (n : Int) : Rep w σ β (.int k n) (.int k n)
  | str (s : ByteArray) : Rep w σ β (.str s.data.toList) (.string s)
  | agg (cs : List PV) (vs : Array Value) (hl : cs.length = vs.size) (h : ∀ (i : Nat) (c : PV) (v : Value), cs[i]? = some c → vs[i]? = some v → Rep w σ β c v) : Rep w σ β (.agg cs) (.agg vs)
  | tup (cs : List PV) (vs : Array Value) (hl : cs.length = vs.size) (h : ∀ (i : Nat) (c : PV) (v : Value), cs[i]? = some c → vs[i]? = some v → Rep w σ β c v) : Rep w σ β (.tup cs) (.tuple vs)
  | nilp : Rep w σ β .nilp (.pointer none)
  | stalep (id g off g' : Nat) (o : VObj) (p : Option Addr) (h : σ[id]? = some (g', o)) (hg : g < g') : Rep w σ β (.ptr id g off) (.pointer p)
  | ptr (id g off b : Nat) (cs : List PV) (fz : Bool) (h : σ[id]? = some (g, .box cs fz)) (hb : β id = some b) : Rep w σ β (.ptr id g off) (.pointer (some ⟨b, off, none⟩))
  | stalerp (id g i off g' : Nat) (o : VObj) (p : Option Addr) (h : σ[id]? = some (g', o)) (hg : g < g') : Rep w σ β (.rptr id g i off) (.pointer p)
  | rptr (id g i off b sz : Nat) (es : List (List PV)) (fz : Bool) (h : σ[id]? = some (g, .row sz es fz)) (hb : β id = some b) : Rep w σ β (.rptr id g i off) (.pointer (some ⟨b, i * sz + off, none⟩))
  | iptr (cells : List PV) (off : Nat) (a a0 : Addr) (f : Nat → Value) (ha : a = a0.add off) (hs : Still w σ β a0 cells.length f) (h : ∀ (j : Nat) (c : PV), cells[j]? = some c → Rep w σ β c (f j)) : Rep w σ β (.iptr cells off) (.pointer (some a))
  | sl (es : List (List PV)) (sz n cap : Nat) (a : Option Addr) (f : Nat → Value) (hn : es.length = n) (hc : n ≤ cap)
      (hsz : ∀ e, e ∈ es → e.length = sz) (ha : 0 < n → ∃ a0, a = some a0 ∧ Still w σ β a0 (n * sz) f)
      (h : ∀ (i : Nat) (e : List PV) (j : Nat) (c : PV), es[i]? = some e → e[j]? = some c → Rep w σ β c (f (i * sz + j))) : Rep w σ β (.sl es) (.slice a n cap)
  | nils : Rep w σ β .nils (.slice none 0 0)
  | stalerow (id g g' : Nat) (o : VObj) (p : Option Addr) (n c : Nat) (h : σ[id]? = some (g', o)) (hg : g < g') : Rep w σ β (.row id g) (.slice p n c)
  | rownil (id g sz : Nat) (fz : Bool) (ad : Option Addr) (h : σ[id]? = some (g, .row sz [] fz)) (hb : β id = none) : Rep w σ β (.row id g) (.slice ad 0 0)
  | row (id g b sz cap : Nat) (es : List (List PV)) (fz : Bool) (arr : Array Value) (ty : TypeId) (fr : Nat × Nat) (h : σ[id]? = some (g, .row sz es fz)) (hb : β id = some b)
      (hh : w.heap[b]? = some (.cells arr ty fr)) (hc : es.length ≤ cap) (hsz : cap * sz ≤ arr.size) : Rep w σ β (.row id g) (.slice (some ⟨b, 0, none⟩) es.length cap)
  | stalebv (id g off len g' : Nat) (o : VObj) (p : Option Addr) (n c : Nat) (h : σ[id]? = some (g', o)) (hg : g < g') : Rep w σ β (.bview id g off len) (.slice p n c)
  | bview (id g off len b cap : Nat) (a : Option Addr) (cs : List PV) (fz : Bool) (h : σ[id]? = some (g, .box cs fz)) (hb : β id = some b) (hl : off + len ≤ cs.length) (hc : len ≤ cap)
      (ha : 0 < len → a = some ⟨b, off, none⟩) : Rep w σ β (.bview id g off len) (.slice a len cap)
  | stalerv (id g lo len g' : Nat) (o : VObj) (p : Option Addr) (n c : Nat) (h : σ[id]? = some (g', o)) (hg : g < g') : Rep w σ β (.rview id g lo len) (.slice p n c)
  | rview (id g lo len cap sz : Nat) (a : Option Addr) (es : List (List PV)) (fz : Bool) (h : σ[id]? = some (g, .row sz es fz)) (hl : lo + len ≤ es.length) (hc : len ≤ cap)
      (ha : 0 < len → ∃ b, β id = some b ∧ a = some ⟨b, lo * sz, none⟩) : Rep w σ β (.rview id g lo len) (.slice a len cap)
  | stalemap (id g g' : Nat) (o : VObj) (p : Option Nat) (h : σ[id]? = some (g', o)) (hg : g < g') : Rep w σ β (.map id g) (.map p)
  | map (id g b : Nat) (es : List (PV × PV × Nat)) (clock : Nat) (h : σ[id]? = some (g, .map es clock)) (hb : β id = some b) : Rep w σ β (.map id g) (.map (some b))
  | nilm : Rep w σ β .nilm (.map none)
  | fn (f : FuncId) (cap : List PV) (vs : Array Value) (hl : cap.length = vs.size) (h : ∀ (i : Nat) (c : PV) (v : Value), cap[i]? = some c → vs[i]? = some v → Rep w σ β c v) : Rep w σ β (.fn f cap) (.func (.func f) #[] vs)
  | staleit (id g g' : Nat) (o : VObj) (p : Option Addr) (h : σ[id]? = some (g', o)) (hg : g < g') : Rep w σ β (.iter id g) (.pointer p)
  | siter (id g b : Nat) (s : List UInt8) (pos : Nat) (h : σ[id]? = some (g, .siter s pos)) (hb : β id = some b) : Rep w σ β (.iter id g) (.pointer (some ⟨b, 0, none⟩))
  | miter (id g b m mg since stepped : Nat) (seen : List Nat) (h : σ[id]? = some (g, .miter m mg since stepped seen)) (hb : β id = some b) : Rep w σ β (.iter id g) (.pointer (some ⟨b, 0, none⟩))
  | undef (v : Value) : Rep w σ β .undef v
  | slr (es : List (List PV)) (id g : Nat) (v : Value) (h1 : Rep w σ β (.sl es) v) (h2 : Rep w σ β (.row id g) v) : Rep w σ β (.slr es id g) v

/-- What a step of the machine may do to memory. -/
structure Step (σ : VHeap) (β : Beta) (w : World) (σ' : VHeap) (β' : Beta) (w' : World) : Prop where
  os : w'.os = w.os
  tape : w'.tape = w.tape
  output : w'.output = w.output
  size : w.heap.size ≤ w'.heap.size
  own : ∀ b, b < w.heap.size → ¬ Owned σ β b → w'.heap[b]? = w.heap[b]?
  still : ∀ a v, w.cell? a = some v → ¬ Wr σ β a.block a.off → w'.cell? a = some v
  kept : ∀ b, b < w.heap.size → Owned σ' β' b → Owned σ β b
  wr : ∀ b i, b < w.heap.size → Wr σ' β' b i → Wr σ β b i
  shape : ∀ (b : Nat) (arr : Array Value) (ty : TypeId) (fr : Nat × Nat), w.heap[b]? = some (.cells arr ty fr) → ∃ arr', w'.heap[b]? = some (.cells arr' ty fr) ∧ arr'.size = arr.size
  gens : ∀ (id g : Nat) (o : VObj), σ[id]? = some (g, o) → ∃ g' o', σ'[id]? = some (g', o') ∧ g ≤ g' ∧ (g = g' → o.alike o' ∧ β' id = β id)

theorem cell_lt {w : World} {a : Addr} {v : Value} (h : w.cell? a = some v) : a.block < w.heap.size := World.block_lt_of_cell? w a h

theorem Step.refl (σ : VHeap) (β : Beta) (w : World) : Step σ β w σ β w :=
  ⟨rfl, rfl, rfl, Nat.le_refl _, fun _ _ _ => rfl, fun _ _ h _ => h, fun _ _ h => h, fun _ _ _ h => h, fun _ arr _ _ h => ⟨arr, h, rfl⟩, fun _ g o h => ⟨g, o, h, Nat.le_refl _, fun _ => ⟨o.alike_refl, rfl⟩⟩⟩

theorem Step.trans {σ β w σ1 β1 w1 σ2 β2 w2} (h : Step σ β w σ1 β1 w1) (k : Step σ1 β1 w1 σ2 β2 w2) : Step σ β w σ2 β2 w2 := by
  refine ⟨k.os.trans h.os, k.tape.trans h.tape, k.output.trans h.output, Nat.le_trans h.size k.size, ?_, ?_, ?_, ?_, ?_, ?_⟩
  · intro b hb hno
    rw [k.own b (Nat.lt_of_lt_of_le hb h.size) (fun ho => hno (h.kept b hb ho)), h.own b hb hno]
  · intro a v hc hno
    exact k.still a v (h.still a v hc hno) (fun hw => hno (h.wr _ _ (cell_lt hc) hw))
  · intro b hb ho
    exact h.kept b hb (k.kept b (Nat.lt_of_lt_of_le hb h.size) ho)
  · intro b i hb ho
    exact h.wr b i hb (k.wr b i (Nat.lt_of_lt_of_le hb h.size) ho)
  · intro b arr ty fr hb
    obtain ⟨arr1, h1, e1⟩ := h.shape b arr ty fr hb
    obtain ⟨arr2, h2, e2⟩ := k.shape b arr1 ty fr h1
    exact ⟨arr2, h2, e2.trans e1⟩
  · intro id g o ho
    obtain ⟨g1, o1, h1, l1, e1⟩ := h.gens id g o ho
    obtain ⟨g2, o2, h2, l2, e2⟩ := k.gens id g1 o1 h1
    refine ⟨g2, o2, h2, Nat.le_trans l1 l2, fun e => ?_⟩
    have h3 : g = g1 := by omega
    have h4 : g1 = g2 := by omega
    exact ⟨VObj.alike_trans (e1 h3).1 (e2 h4).1, (e2 h4).2.trans (e1 h3).2⟩

theorem Still.step {σ β w σ' β' w'} (h : Step σ β w σ' β' w') {a : Addr} {n : Nat} {f : Nat → Value} (hs : Still w σ β a n f) : Still w' σ' β' a n f := by
  intro j hj
  obtain ⟨h1, h2⟩ := hs j hj
  have hblk : (a.add j).block = a.block := by unfold Addr.add; split <;> rfl
  refine ⟨h.still _ _ h1 (by rw [hblk]; exact h2), fun hw => h2 (h.wr _ _ (by rw [← hblk]; exact cell_lt h1) hw)⟩

theorem Rep.step {σ β w σ' β' w'} (h : Step σ β w σ' β' w') {c : PV} {v : Value} (hr : Rep w σ β c v) : Rep w' σ' β' c v := by
  have stale : ∀ {id g g' : Nat} {o : VObj}, σ[id]? = some (g', o) → g < g' → ∃ g2 o2, σ'[id]? = some (g2, o2) ∧ g < g2 := by
    intro id g g' o ho hg
    obtain ⟨g2, o2, h2, l2, _⟩ := h.gens id g' o ho
    exact ⟨g2, o2, h2, by omega⟩
  induction hr with
  | bool b => exact .bool b
  | int k n => exact .int k n
  | str s => exact .str s
  | agg cs vs hl _ ih => exact .agg cs vs hl ih
  | tup cs vs hl _ ih => exact .tup cs vs hl ih
  | nilp => exact .nilp
  | stalep id g off g' o p h1 hg => obtain ⟨g2, o2, h2, l2⟩ := stale h1 hg; exact .stalep id g off g2 o2 p h2 l2
  | ptr id g off b cs fz h1 hb =>
    obtain ⟨g2, o2, h2, l2, e2⟩ := h.gens id g _ h1
    by_cases e : g = g2
    · subst e
      obtain ⟨e3, e4⟩ := e2 rfl
      cases o2 <;> simp [VObj.alike] at e3
      exact .ptr id g off b _ _ h2 (by rw [e4, hb])
    · exact .stalep id g off g2 o2 _ h2 (by omega)
  | stalerp id g i off g' o v h1 hg => obtain ⟨g2, o2, h2, l2⟩ := stale h1 hg; exact .stalerp id g i off g2 o2 v h2 l2
  | rptr id g i off b sz es fz h1 hb =>
    obtain ⟨g2, o2, h2, l2, e2⟩ := h.gens id g _ h1
    by_cases e : g = g2
    · subst e
      obtain ⟨e3, e4⟩ := e2 rfl
      cases o2 <;> simp [VObj.alike] at e3
      obtain ⟨rfl, _⟩ := e3
      exact .rptr id g i off b _ _ _ h2 (by rw [e4, hb])
    · exact .stalerp id g i off g2 o2 _ h2 (by omega)
  | iptr cells off a a0 f ha hs _ ih => exact .iptr cells off a a0 f ha (hs.step h) ih
  | sl es sz n cap a f hn hc hsz ha _ ih =>
    exact .sl es sz n cap a f hn hc hsz (fun h0 => let ⟨a0, e0, hs⟩ := ha h0; ⟨a0, e0, hs.step h⟩) ih
  | nils => exact .nils
  | stalerow id g g' o p n c h1 hg => obtain ⟨g2, o2, h2, l2⟩ := stale h1 hg; exact .stalerow id g g2 o2 p n c h2 l2
  | rownil id g sz fz ad h1 hb =>
    obtain ⟨g2, o2, h2, l2, e2⟩ := h.gens id g _ h1
    by_cases e : g = g2
    · subst e
      obtain ⟨e3, e4⟩ := e2 rfl
      cases o2 <;> simp [VObj.alike] at e3
      obtain ⟨rfl, e5⟩ := e3
      rename_i es fz2
      have : es = [] := List.length_eq_zero_iff.1 e5.symm
      subst this
      exact .rownil id g _ _ ad h2 (by rw [e4, hb])
    · exact .stalerow id g g2 o2 _ _ _ h2 (by omega)
  | row id g b sz cap es fz arr ty fr h1 hb hh hc hsz =>
    obtain ⟨g2, o2, h2, l2, e2⟩ := h.gens id g _ h1
    by_cases e : g = g2
    · subst e
      obtain ⟨e3, e4⟩ := e2 rfl
      cases o2 <;> simp [VObj.alike] at e3
      obtain ⟨rfl, e5⟩ := e3
      obtain ⟨arr', h6, e6⟩ := h.shape b arr ty fr hh
      rw [e5]
      exact .row id g b sz cap _ _ arr' ty fr h2 (by rw [e4, hb]) h6 (by omega) (by omega)
    · exact .stalerow id g g2 o2 _ _ _ h2 (by omega)
  | stalebv id g off len g' o p n c h1 hg => obtain ⟨g2, o2, h2, l2⟩ := stale h1 hg; exact .stalebv id g off len g2 o2 p n c h2 l2
  | bview id g off len b cap a cs fz h1 hb hl hc ha =>
    obtain ⟨g2, o2, h2, l2, e2⟩ := h.gens id g _ h1
    by_cases e : g = g2
    · subst e
      obtain ⟨e3, e4⟩ := e2 rfl
      cases o2 <;> simp [VObj.alike] at e3
      exact .bview id g off len b cap a _ _ h2 (by rw [e4, hb]) (by omega) hc ha
    · exact .stalebv id g off len g2 o2 _ _ _ h2 (by omega)
  | stalerv id g lo len g' o p n c h1 hg => obtain ⟨g2, o2, h2, l2⟩ := stale h1 hg; exact .stalerv id g lo len g2 o2 _ _ _ h2 l2
  | rview id g lo len cap sz a es fz h1 hl hc ha =>
    obtain ⟨g2, o2, h2, l2, e2⟩ := h.gens id g _ h1
    by_cases e : g = g2
    · subst e
      obtain ⟨e3, e4⟩ := e2 rfl
      cases o2 <;> simp [VObj.alike] at e3
      obtain ⟨rfl, e5⟩ := e3
      exact .rview id g lo len cap _ a _ _ h2 (by omega) hc (by rw [e4]; exact ha)
    · exact .stalerv id g lo len g2 o2 _ _ _ h2 (by omega)
  | stalemap id g g' o v h1 hg => obtain ⟨g2, o2, h2, l2⟩ := stale h1 hg; exact .stalemap id g g2 o2 v h2 l2
  | map id g b es clock h1 hb =>
    obtain ⟨g2, o2, h2, l2, e2⟩ := h.gens id g _ h1
    by_cases e : g = g2
    · subst e
      obtain ⟨e3, e4⟩ := e2 rfl
      cases o2 <;> simp [VObj.alike] at e3
      exact .map id g b _ _ h2 (by rw [e4, hb])
    · exact .stalemap id g g2 o2 _ h2 (by omega)
  | nilm => exact .nilm
  | fn f cap vs hl _ ih => exact .fn f cap vs hl ih
  | staleit id g g' o v h1 hg => obtain ⟨g2, o2, h2, l2⟩ := stale h1 hg; exact .staleit id g g2 o2 v h2 l2
  | siter id g b s pos h1 hb =>
    obtain ⟨g2, o2, h2, l2, e2⟩ := h.gens id g _ h1
    by_cases e : g = g2
    · subst e
      obtain ⟨e3, e4⟩ := e2 rfl
      cases o2 <;> simp [VObj.alike] at e3
      subst e3
      exact .siter id g b _ _ h2 (by rw [e4, hb])
    · exact .staleit id g g2 o2 _ h2 (by omega)
  | miter id g b m mg since stepped seen h1 hb =>
    obtain ⟨g2, o2, h2, l2, e2⟩ := h.gens id g _ h1
    by_cases e : g = g2
    · subst e
      obtain ⟨e3, e4⟩ := e2 rfl
      cases o2 <;> simp [VObj.alike] at e3
      exact .miter id g b _ _ _ _ _ h2 (by rw [e4, hb])
    · exact .staleit id g g2 o2 _ h2 (by omega)
  | undef v => exact .undef v
  | slr es id g v _ _ i1 i2 => exact .slr es id g v i1 i2

/-- A block of cells, none of which may not be written. -/
def Cells (w : World) (b : Nat) (arr : Array Value) : Prop := ∃ ty fr, w.heap[b]? = some (.cells arr ty fr) ∧ ∀ i, i < arr.size → ¬ (fr.1 ≤ i ∧ i < fr.2)

/-- An object of the small heap in a world. -/
def ORep (w : World) (σ : VHeap) (β : Beta) (ob : Option Nat) : VObj → Prop
  | .dead => True
  | .box cs _ => ∃ b arr, ob = some b ∧ Cells w b arr ∧ cs.length = arr.size ∧ ∀ (i : Nat) (c : PV) (v : Value), cs[i]? = some c → arr[i]? = some v → Rep w σ β c v
  | .row sz es _ => (ob = none ∧ es = []) ∨ ∃ b arr, ob = some b ∧ Cells w b arr ∧ es.length * sz ≤ arr.size ∧ (∀ e, e ∈ es → e.length = sz) ∧
      ∀ (i : Nat) (e : List PV) (j : Nat) (c : PV) (v : Value), es[i]? = some e → e[j]? = some c → arr[i * sz + j]? = some v → Rep w σ β c v
  | .map es clock => ∃ b ms, ob = some b ∧ w.heap[b]? = some (.map ms clock) ∧ es.length = ms.size ∧
      ∀ (i : Nat) (e : PV × PV × Nat) (m : MapEntry), es[i]? = some e → ms[i]? = some m → Rep w σ β e.1 m.key ∧ Rep w σ β e.2.1 m.val ∧ e.2.2 = m.born
  | .siter s pos => ∃ b, ob = some b ∧ ∃ bs : ByteArray, bs.data.toList = s ∧ w.heap[b]? = some (.stringIter bs pos)
  | .miter m g since stepped seen => ∃ b, ob = some b ∧ ∃ mb, Rep w σ β (.map m g) (.map (some mb)) ∧ w.heap[b]? = some (.mapIter (some mb) since seen.toArray stepped)

structure Sim (σ : VHeap) (β : Beta) (w : World) : Prop where
  obj : ∀ (id g : Nat) (o : VObj), σ[id]? = some (g, o) → ORep w σ β (β id) o
  inj : ∀ (i j b gi gj : Nat) (oi oj : VObj), σ[i]? = some (gi, oi) → σ[j]? = some (gj, oj) → oi.live → oj.live → β i = some b → β j = some b → i = j

theorem Cells.lt {w : World} {b : Nat} {arr : Array Value} (h : Cells w b arr) : b < w.heap.size := by
  obtain ⟨ty, fr, h, _⟩ := h
  exact (Array.getElem?_eq_some_iff.1 h).1

theorem Cells.cell {w : World} {b : Nat} {arr : Array Value} (h : Cells w b arr) (i : Nat) : w.cell? ⟨b, i, none⟩ = arr[i]? := by
  obtain ⟨ty, fr, h, _⟩ := h
  simp [World.cell?, h]

theorem Cells.free {w : World} {b : Nat} {arr : Array Value} (h : Cells w b arr) {i : Nat} (hi : i < arr.size) : w.frozen? ⟨b, i, none⟩ = false := by
  obtain ⟨ty, fr, h, hf⟩ := h
  have := hf i hi
  simp [World.frozen?, h]
  omega

theorem add_zero (a : Addr) : a.add 0 = a := by simp [Addr.add]
theorem add_mk (b o n : Nat) : (⟨b, o, none⟩ : Addr).add n = ⟨b, o + n, none⟩ := by unfold Addr.add; split <;> simp_all
theorem add_add (a : Addr) (i j : Nat) : (a.add i).add j = a.add (i + j) := by
  unfold Addr.add
  by_cases hi : i = 0
  · subst hi; simp
  · by_cases hj : j = 0
    · subst hj; simp
    · rw [if_neg hi, if_neg hj, if_neg (by omega)]; simp [Nat.add_assoc]
theorem add_block (a : Addr) (i : Nat) : (a.add i).block = a.block := by unfold Addr.add; split <;> rfl

/-- Of a live object's block nobody else is the owner. -/
theorem Sim.lt {σ β w} (h : Sim σ β w) {id g : Nat} {o : VObj} {b : Nat} (ho : σ[id]? = some (g, o)) (hl : o.live) (hb : β id = some b) : b < w.heap.size := by
  have := h.obj id g o ho
  cases o with
  | dead => exact hl.elim
  | box cs fz => obtain ⟨b', arr, e, hc, _⟩ := this; rw [hb] at e; cases e; exact hc.lt
  | row sz es fz =>
    rcases this with ⟨e, _⟩ | ⟨b', arr, e, hc, _⟩
    · rw [hb] at e; cases e
    · rw [hb] at e; cases e; exact hc.lt
  | map es clock => obtain ⟨b', ms, e, hh, _⟩ := this; rw [hb] at e; cases e; exact (Array.getElem?_eq_some_iff.1 hh).1
  | siter s pos => obtain ⟨b', e, bs, _, hh⟩ := this; rw [hb] at e; cases e; exact (Array.getElem?_eq_some_iff.1 hh).1
  | miter m g since stepped seen => obtain ⟨b', e, mb, _, hh⟩ := this; rw [hb] at e; cases e; exact (Array.getElem?_eq_some_iff.1 hh).1

theorem Sim.owned_lt {σ β w} (h : Sim σ β w) {b : Nat} (ho : Owned σ β b) : b < w.heap.size := by
  obtain ⟨id, g, o, h1, h2, h3⟩ := ho
  exact h.lt h1 h3 h2

/-- Who is represented before a step is so behind it, if all objects are the same. -/
theorem ORep.step {σ β w σ' β' w'} (h : Step σ β w σ' β' w') {ob : Option Nat} {o : VObj} (hr : ORep w σ β ob o)
    (hh : ∀ b, ob = some b → w'.heap[b]? = w.heap[b]?) : ORep w' σ' β' ob o := by
  have cells : ∀ {b : Nat} {arr : Array Value}, ob = some b → Cells w b arr → Cells w' b arr := by
    rintro b arr e ⟨ty, fr, h1, h2⟩
    exact ⟨ty, fr, (hh b e).trans h1, h2⟩
  cases o with
  | dead => trivial
  | box cs fz =>
    obtain ⟨b, arr, e, hc, hl, hr⟩ := hr
    exact ⟨b, arr, e, cells e hc, hl, fun i c v h1 h2 => (hr i c v h1 h2).step h⟩
  | row sz es fz =>
    rcases hr with hr | ⟨b, arr, e, hc, hl, hs, hr⟩
    · exact .inl hr
    · exact .inr ⟨b, arr, e, cells e hc, hl, hs, fun i e j c v h1 h2 h3 => (hr i e j c v h1 h2 h3).step h⟩
  | map es clock =>
    obtain ⟨b, ms, e, h1, hl, hr⟩ := hr
    refine ⟨b, ms, e, (hh b e).trans h1, hl, fun i e m h2 h3 => ?_⟩
    obtain ⟨r1, r2, r3⟩ := hr i e m h2 h3
    exact ⟨r1.step h, r2.step h, r3⟩
  | siter s pos =>
    obtain ⟨b, e, bs, h1, h2⟩ := hr
    exact ⟨b, e, bs, h1, (hh b e).trans h2⟩
  | miter m g since stepped seen =>
    obtain ⟨b, e, mb, h1, h2⟩ := hr
    exact ⟨b, e, mb, h1.step h, (hh b e).trans h2⟩

def upd (β : Beta) (id : Nat) (b : Option Nat) : Beta := fun i => if i = id then b else β i
theorem upd_same (β : Beta) (id : Nat) (b : Option Nat) : upd β id b id = b := by simp [upd]
theorem upd_ne (β : Beta) {id i : Nat} (b : Option Nat) (h : i ≠ id) : upd β id b i = β i := by simp [upd, h]

theorem set_get {σ : VHeap} {id i g : Nat} {o : VObj} {x : Nat × VObj} (h : (σ.set id x)[i]? = some (g, o)) : (i = id ∧ (g, o) = x) ∨ (i ≠ id ∧ σ[i]? = some (g, o)) := by
  by_cases e : i = id
  · subst e
    rw [List.getElem?_set] at h
    simp only [if_true] at h
    split at h
    · exact .inl ⟨rfl, (Option.some.inj h).symm⟩
    · cases h
  · rw [List.getElem?_set_ne (Ne.symm e)] at h
    exact .inr ⟨e, h⟩

theorem set_same {σ : VHeap} {id : Nat} {x y : Nat × VObj} (h : σ[id]? = some y) : (σ.set id x)[id]? = some x := by
  rw [List.getElem?_set_self]
  exact (List.getElem?_eq_some_iff.1 h).1

theorem cell_of_heap {w w' : World} {a : Addr} (h : w'.heap[a.block]? = w.heap[a.block]?) : w'.cell? a = w.cell? a := by
  unfold World.cell?; rw [h]

/-- A new block for object 'id'. -/
theorem alloc_sim {σ β w w'} {id g : Nat} {o0 o : VObj} {obj : Obj} (h : Sim σ β w) (hid : σ[id]? = some (g, o0))
    (hos : w'.os = w.os) (ht : w'.tape = w.tape) (hout : w'.output = w.output) (hheap : w'.heap = w.heap.push obj)
    (ho : Step σ β w (σ.set id (g + 1, o)) (upd β id (some w.heap.size)) w' → ORep w' (σ.set id (g + 1, o)) (upd β id (some w.heap.size)) (some w.heap.size) o) :
    Step σ β w (σ.set id (g + 1, o)) (upd β id (some w.heap.size)) w' ∧ Sim (σ.set id (g + 1, o)) (upd β id (some w.heap.size)) w' := by
  have old : ∀ b, b < w.heap.size → w'.heap[b]? = w.heap[b]? := by
    intro b hb
    rw [hheap, Array.getElem?_push, if_neg (by omega)]
  have hs : Step σ β w (σ.set id (g + 1, o)) (upd β id (some w.heap.size)) w' := by
    refine ⟨hos, ht, hout, by rw [hheap]; simp, fun b hb _ => old b hb, fun a v hc _ => by rw [cell_of_heap (old _ (cell_lt hc))]; exact hc, ?_, ?_, ?_, ?_⟩
    · rintro b hb ⟨i, gi, oi, h1, h2, h3⟩
      rcases set_get h1 with ⟨e, h4⟩ | ⟨e, h4⟩
      · subst e; rw [upd_same] at h2; cases h2; omega
      · rw [upd_ne _ _ e] at h2; exact ⟨i, gi, oi, h4, h2, h3⟩
    · rintro b j hb ⟨i, gi, oi, h1, h2, h3⟩
      rcases set_get h1 with ⟨e, h4⟩ | ⟨e, h4⟩
      · subst e; rw [upd_same] at h2; cases h2; omega
      · rw [upd_ne _ _ e] at h2; exact ⟨i, gi, oi, h4, h2, h3⟩
    · intro b arr ty fr hb
      exact ⟨arr, by rw [old b (Array.getElem?_eq_some_iff.1 hb).1]; exact hb, rfl⟩
    · intro i gi oi h1
      by_cases e : i = id
      · subst e
        rw [hid] at h1; cases h1
        exact ⟨g + 1, o, set_same hid, by omega, fun e => by omega⟩
      · exact ⟨gi, oi, by rw [List.getElem?_set_ne (Ne.symm e)]; exact h1, Nat.le_refl _, fun _ => ⟨oi.alike_refl, upd_ne _ _ e⟩⟩
  refine ⟨hs, ?_, ?_⟩
  · intro i gi oi h1
    rcases set_get h1 with ⟨e, h4⟩ | ⟨e, h4⟩
    · subst e; cases h4; rw [upd_same]; exact ho hs
    · rw [upd_ne _ _ e]
      by_cases hl : oi.live
      · exact (h.obj i gi oi h4).step hs fun b hb => old b (h.lt h4 hl hb)
      · cases oi <;> simp [VObj.live] at hl; trivial
  · intro i j b gi gj oi oj h1 h2 l1 l2 b1 b2
    rcases set_get h1 with ⟨e1, h3⟩ | ⟨e1, h3⟩ <;> rcases set_get h2 with ⟨e2, h4⟩ | ⟨e2, h4⟩
    · rw [e1, e2]
    · subst e1; rw [upd_same] at b1; cases b1
      rw [upd_ne _ _ e2] at b2
      have := h.lt h4 l2 b2; omega
    · subst e2; rw [upd_same] at b2; cases b2
      rw [upd_ne _ _ e1] at b1
      have := h.lt h3 l1 b1; omega
    · rw [upd_ne _ _ e1] at b1; rw [upd_ne _ _ e2] at b2
      exact h.inj i j b gi gj oi oj h3 h4 l1 l2 b1 b2

/-- An object's block is written. -/
theorem put_sim' {σ β w w'} {id g g' b : Nat} {o o' : VObj} {obj obj' : Obj} (h : Sim σ β w) (hid : σ[id]? = some (g, o)) (hl : o.live) (hb : β id = some b)
    (hos : w'.os = w.os) (ht : w'.tape = w.tape) (hout : w'.output = w.output) (hobj : w.heap[b]? = some obj) (hheap : w'.heap = w.heap.setIfInBounds b obj')
    (hgg : g ≤ g') (hal : g = g' → o.alike o') (hmay : ∀ i, o'.may i → o.may i)
    (hcell : ∀ i v, w.cell? ⟨b, i, none⟩ = some v → ¬ o.may i → w'.cell? ⟨b, i, none⟩ = some v)
    (hshape : ∀ arr ty fr, obj = .cells arr ty fr → ∃ arr', obj' = .cells arr' ty fr ∧ arr'.size = arr.size)
    (ho : Step σ β w (σ.set id (g', o')) β w' → ORep w' (σ.set id (g', o')) β (some b) o') :
    Step σ β w (σ.set id (g', o')) β w' ∧ Sim (σ.set id (g', o')) β w' := by
  have hlt : b < w.heap.size := (Array.getElem?_eq_some_iff.1 hobj).1
  have old : ∀ c, c ≠ b → w'.heap[c]? = w.heap[c]? := by
    intro c hc
    rw [hheap, Array.getElem?_setIfInBounds_ne (Ne.symm hc)]
  have new : w'.heap[b]? = some obj' := by
    rw [hheap, Array.getElem?_setIfInBounds_self_of_lt hlt]
  have hs : Step σ β w (σ.set id (g', o')) β w' := by
    refine ⟨hos, ht, hout, by rw [hheap]; simp, ?_, ?_, ?_, ?_, ?_, ?_⟩
    · intro c hc hno
      exact old c fun e => hno (e ▸ ⟨id, g, o, hid, hb, hl⟩)
    · intro a v hc hno
      by_cases e : a.block = b
      · have hsp : a = ⟨b, a.off, none⟩ := by
          cases a with
          | mk blk off spot =>
            simp only at e; subst e
            cases spot with
            | none => rfl
            | some s => unfold World.cell? at hc; split at hc <;> simp at hc
        rw [hsp] at hc ⊢
        exact hcell _ _ hc fun hm => hno (by rw [hsp]; exact ⟨id, g, o, hid, hb, hm⟩)
      · rw [cell_of_heap (old _ e)]; exact hc
    · rintro c hc ⟨i, gi, oi, h1, h2, h3⟩
      rcases set_get h1 with ⟨e, h4⟩ | ⟨e, h4⟩
      · subst e; cases h4; exact ⟨i, g, o, hid, h2, hl⟩
      · exact ⟨i, gi, oi, h4, h2, h3⟩
    · rintro c j hc ⟨i, gi, oi, h1, h2, h3⟩
      rcases set_get h1 with ⟨e, h4⟩ | ⟨e, h4⟩
      · subst e; cases h4; exact ⟨i, g, o, hid, h2, hmay _ h3⟩
      · exact ⟨i, gi, oi, h4, h2, h3⟩
    · intro c arr ty fr hc
      by_cases e : c = b
      · subst e
        rw [hobj] at hc
        obtain ⟨arr', e1, e2⟩ := hshape arr ty fr (Option.some.inj hc)
        exact ⟨arr', by rw [new, e1], e2⟩
      · exact ⟨arr, by rw [old c e]; exact hc, rfl⟩
    · intro i gi oi h1
      by_cases e : i = id
      · subst e
        rw [hid] at h1; cases h1
        exact ⟨g', o', set_same hid, hgg, fun e => ⟨hal e, rfl⟩⟩
      · exact ⟨gi, oi, by rw [List.getElem?_set_ne (Ne.symm e)]; exact h1, Nat.le_refl _, fun _ => ⟨oi.alike_refl, rfl⟩⟩
  refine ⟨hs, ?_, ?_⟩
  · intro i gi oi h1
    rcases set_get h1 with ⟨e, h4⟩ | ⟨e, h4⟩
    · subst e; cases h4; rw [hb]; exact ho hs
    · by_cases hli : oi.live
      · refine (h.obj i gi oi h4).step hs fun c hc => old c fun e2 => e ?_
        subst e2
        exact h.inj i id c gi g oi o h4 hid hli hl hc hb
      · cases oi <;> simp [VObj.live] at hli; trivial
  · intro i j c gi gj oi oj h1 h2 l1 l2 b1 b2
    rcases set_get h1 with ⟨e1, h3⟩ | ⟨e1, h3⟩ <;> rcases set_get h2 with ⟨e2, h4⟩ | ⟨e2, h4⟩
    · rw [e1, e2]
    · subst e1; exact h.inj i j c g gj o oj hid h4 hl l2 b1 b2
    · subst e2; exact h.inj i j c gi g oi o h3 hid l1 hl b1 b2
    · exact h.inj i j c gi gj oi oj h3 h4 l1 l2 b1 b2

theorem put_sim {σ β w w'} {id g b : Nat} {o o' : VObj} {obj obj' : Obj} (h : Sim σ β w) (hid : σ[id]? = some (g, o)) (hl : o.live) (hb : β id = some b)
    (hos : w'.os = w.os) (ht : w'.tape = w.tape) (hout : w'.output = w.output) (hobj : w.heap[b]? = some obj) (hheap : w'.heap = w.heap.setIfInBounds b obj')
    (hal : o.alike o') (hmay : ∀ i, o'.may i → o.may i)
    (hcell : ∀ i v, w.cell? ⟨b, i, none⟩ = some v → ¬ o.may i → w'.cell? ⟨b, i, none⟩ = some v)
    (hshape : ∀ arr ty fr, obj = .cells arr ty fr → ∃ arr', obj' = .cells arr' ty fr ∧ arr'.size = arr.size)
    (ho : Step σ β w (σ.set id (g, o')) β w' → ORep w' (σ.set id (g, o')) β (some b) o') :
    Step σ β w (σ.set id (g, o')) β w' ∧ Sim (σ.set id (g, o')) β w' :=
  put_sim' h hid hl hb hos ht hout hobj hheap (Nat.le_refl _) (fun _ => hal) hmay hcell hshape ho

/-- Draws and the like: memory is as it was. -/
theorem same_sim {σ β w w'} (h : Sim σ β w) (hos : w'.os = w.os) (ht : w'.tape = w.tape) (hout : w'.output = w.output) (hheap : w'.heap = w.heap) : Step σ β w σ β w' ∧ Sim σ β w' := by
  have old : ∀ b : Nat, w'.heap[b]? = w.heap[b]? := fun b => by rw [hheap]
  have hs : Step σ β w σ β w' :=
    ⟨hos, ht, hout, by rw [hheap]; exact Nat.le_refl _, fun b _ _ => old b, fun a v hc _ => by rw [cell_of_heap (old _)]; exact hc, fun _ _ h => h, fun _ _ _ h => h,
      fun b arr ty fr hb => ⟨arr, (old b).trans hb, rfl⟩, fun i gi oi h1 => ⟨gi, oi, h1, Nat.le_refl _, fun _ => ⟨oi.alike_refl, rfl⟩⟩⟩
  exact ⟨hs, fun i gi oi h1 => (h.obj i gi oi h1).step hs fun b _ => old b, h.inj⟩

end Go.V
