/- Plain laws of orders: no program in sight. -/
import Derived.Lib.Bytealg
namespace Go.V
open Go.Lib
/-- An order as -1, 0, 1: what two answers say of the third. -/
def Ord3 (x y z : Int) : Prop := (x ≤ 0 → y ≤ 0 → z ≤ 0) ∧ (x ≤ 0 → y < 0 → z < 0) ∧ (x < 0 → y ≤ 0 → z < 0) ∧ (x = 0 → y = 0 → z = 0)
theorem cb_range (a b : List UInt8) : -1 ≤ compareBytes a b ∧ compareBytes a b ≤ 1 := by
  induction a generalizing b with
  | nil => cases b <;> simp [compareBytes]
  | cons x r ih =>
    cases b with
    | nil => simp [compareBytes]
    | cons y q =>
      have := ih q
      simp only [compareBytes]
      split
      · omega
      · split
        · omega
        · exact this
theorem cb_neg (a b : List UInt8) : compareBytes b a = - compareBytes a b := by
  induction a generalizing b with
  | nil => cases b <;> simp [compareBytes]
  | cons x r ih =>
    cases b with
    | nil => simp [compareBytes]
    | cons y q =>
      have := ih q
      simp only [compareBytes, UInt8.lt_iff_toNat_lt]
      split <;> split <;> first | omega | exact this
theorem cb_zero (a b : List UInt8) : compareBytes a b = 0 ↔ a = b := by
  induction a generalizing b with
  | nil => cases b <;> simp [compareBytes]
  | cons x r ih =>
    cases b with
    | nil => simp [compareBytes]
    | cons y q =>
      have := ih q
      simp only [compareBytes, UInt8.lt_iff_toNat_lt, List.cons.injEq]
      rw [← this, ← UInt8.toNat_inj]
      split
      · constructor <;> intro h <;> omega
      · split
        · constructor <;> intro h <;> omega
        · constructor
          · intro h; exact ⟨by omega, h⟩
          · intro h; exact h.2
theorem cb_trans (a b c : List UInt8) : Ord3 (compareBytes a b) (compareBytes b c) (compareBytes a c) := by
  induction a generalizing b c with
  | nil => cases b <;> cases c <;> simp [compareBytes, Ord3]
  | cons x r ih =>
    cases b with
    | nil => cases c <;> simp [compareBytes, Ord3]
    | cons y q =>
      cases c with
      | nil => simp [compareBytes, Ord3]
      | cons z p =>
        have := ih q p
        simp only [compareBytes, UInt8.lt_iff_toNat_lt]
        unfold Ord3 at *
        (repeat split) <;> omega
/-- An order that is antisymmetric. -/
structure Ordr {α : Type} (f : α → α → Int) : Prop where
  lo : ∀ a b, -1 ≤ f a b
  hi : ∀ a b, f a b ≤ 1
  neg : ∀ a b, f b a = - f a b
  tr : ∀ a b c, Ord3 (f a b) (f b c) (f a c)
theorem cb_ordr : Ordr compareBytes := ⟨fun a b => (cb_range a b).1, fun a b => (cb_range a b).2, cb_neg, cb_trans⟩
theorem lex3 {x y z u v w : Int} (h1 : Ord3 x y z) (h3 : Ord3 (-x) z y) (h4 : Ord3 z (-y) x) (h2 : Ord3 u v w) : Ord3 (if x = 0 then u else x) (if y = 0 then v else y) (if z = 0 then w else z) := by
  obtain ⟨a1, a2, a3, a4⟩ := h1
  by_cases hx : x = 0
  · by_cases hy : y = 0
    · have hz := a4 hx hy
      rw [if_pos hx, if_pos hy, if_pos hz]; exact h2
    · rw [if_pos hx, if_neg hy]
      have hz : z ≠ 0 := fun hz => hy (h3.2.2.2 (by omega) hz)
      rw [if_neg hz]
      have b1 := h3.1
      refine ⟨fun _ h => a1 (by omega) h, fun _ h => a2 (by omega) h, fun _ h => ?_, fun _ h => absurd h hy⟩
      have := a2 (by omega) (by omega); exact this
  · by_cases hy : y = 0
    · rw [if_neg hx, if_pos hy]
      have hz : z ≠ 0 := fun hz => hx (h4.2.2.2 hz (by omega))
      rw [if_neg hz]
      refine ⟨fun h _ => a1 h (by omega), fun h _ => a3 (by omega) (by omega), fun h _ => a3 h (by omega), fun h => absurd h hx⟩
    · rw [if_neg hx, if_neg hy]
      have hz : x ≤ 0 → y ≤ 0 → z < 0 := fun h k => a2 h (by omega)
      have hz2 : x ≤ 0 → y ≤ 0 → (if z = 0 then w else z) < 0 := fun h k => by
        have := hz h k; rw [if_neg (by omega)]; exact this
      exact ⟨fun h k => Int.le_of_lt (hz2 h k), fun h k => hz2 h (by omega), fun h k => hz2 (by omega) k, fun h => absurd h hx⟩
/-- One order behind another. -/
theorem Ordr.lex {α β γ : Type} {f : α → α → Int} {g : β → β → Int} (p : γ → α) (q : γ → β) (hf : Ordr f) (hg : Ordr g) : Ordr fun x y => if f (p x) (p y) = 0 then g (q x) (q y) else f (p x) (p y) := by
  constructor
  · intro a b; split
    · exact hg.lo _ _
    · exact hf.lo _ _
  · intro a b; split
    · exact hg.hi _ _
    · exact hf.hi _ _
  · intro a b
    have h1 := hf.neg (p a) (p b)
    have h2 := hg.neg (q a) (q b)
    split <;> split <;> first | exact h1 | exact h2 | omega
  · intro a b c
    have h3 := hf.tr (p b) (p a) (p c)
    have h4 := hf.tr (p a) (p c) (p b)
    rw [hf.neg (p a) (p b)] at h3
    rw [hf.neg (p b) (p c)] at h4
    exact lex3 (hf.tr (p a) (p b) (p c)) h3 h4 (hg.tr (q a) (q b) (q c))
end Go.V
