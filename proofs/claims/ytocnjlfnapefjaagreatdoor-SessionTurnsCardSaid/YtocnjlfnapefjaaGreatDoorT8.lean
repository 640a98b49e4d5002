/- Sessions: opened, heard, tick. -/
import Derived.Test.YtocnjlfnapefjaaGreatDoorT7
namespace Go.Proofs.YtocnjlfnapefjaaGreatDoor
open Go Go.V
set_option maxRecDepth 10000
set_option linter.unusedVariables false
attribute [local irreducible] vBuild vCallV
theorem tdiv3 (h : Int) : (h.tdiv 3 = h / 3 ∨ h.tdiv 3 = h / 3 + 1) ∧ (0 ≤ h → h.tdiv 3 = h / 3) ∧ (h ≤ 0 → h.tdiv 3 ≤ 0) := by
  have e : h.tdiv 3 = h / 3 + if 0 ≤ h ∨ (3 : Int) ∣ h then 0 else 1 := Int.tdiv_eq_ediv
  refine ⟨?_, fun h0 => Int.tdiv_eq_ediv_of_nonneg h0, fun h0 => ?_⟩
  · rw [e]; split <;> omega
  · rw [e]; split <;> omega
theorem ib_quo3 {h : Int} (h0 : -9223372036854775808 ≤ h) (h1 : h ≤ 9223372036854775807) : ibin .quo .i64 h .i64 3 = some (.int .i64 (h.tdiv 3)) := by
  have := (tdiv3 h).1
  have w := w_i64 (x := h.tdiv 3) (by omega) (by omega)
  simp [ibin, w]
instance : DecidableEq Fm := fun a c => if h : a.size = c.size ∧ a.safi = c.safi then isTrue (by cases a; cases c; simp at h; simp [h]) else isFalse (by rintro rfl; simp at h)
theorem eqC_fm (a c : Fm) : eqCells [.i .i64, .i .i64] (fmC a) (fmC c) = some (decide (a = c)) := by
  have h := eqC_app (eqC_i a.size c.size) (eqC_i a.safi c.safi)
  have e : decide (a = c) = (a.size == c.size && a.safi == c.safi) := by
    cases a; cases c
    rw [Bool.eq_iff_iff]
    simp
  rw [e]
  exact h
/-- Where a family stands first. -/
def fidx (l : List Fm) (f : Fm) : Int := match l.findIdx? (fun x => decide (x = f)) with | some i => i | none => -1
def aliveL : List PV := [.int .i64 4, D.i 0, D.i 0, D.i 0, D.b 0, D.b 0, D.b 0, D.b 0, D.b 0, D.b 0, D.b 0, D.b 0, D.b 0, D.b 0, D.b 0, D.b 0, D.b 0, D.b 0, D.b 0, D.b 0, .nils, .bool false, D.i 0, .nils, D.i 0, D.i 0, D.i 0, D.b 0, D.b 0, D.b 0, D.b 0, D.b 0, D.b 0, D.b 0, D.b 0, D.b 0, D.b 0, D.b 0, D.b 0, D.b 0, D.b 0, D.b 0, D.b 0, .nils, .nils, .nils, .nils, .nils, D.i 0, D.i 0, .nils, D.i 0, D.i 0]
theorem aliveL_plB : aliveL.all plB = true := rfl
theorem aliveL_nz : aliveL.map nz = msC mAlive := rfl
attribute [local irreducible] fmC
theorem uIndexF {l : List Fm} {f : Fm} (hl : l.length ≤ 140737488355328) : U Tryz.prog 69 [.sl (l.map fmC), .agg (fmC f)] (.int .i64 (fidx l f)) := by
  intro σ Post hk
  have b1 : (l.map fmC).length = l.length := List.length_map _
  have fs := fmC_sc (x := f)
  have fl := fmC_len (x := f) ⟨trivial⟩
  have fa := fmC_all (x := f) ⟨trivial⟩
  refine T69 fun hB hA => ?_
  refine W ?_
  refine lp (fun j e s => ∃ i : Nat, i + j = l.length ∧ e 8 = .int .i64 i ∧ (l.take i).findIdx? (fun x => decide (x = f)) = none ∧ s = σ ++ [(1, VObj.box (fmC f) false)]) l.length ⟨0, by simp, rfl, rfl, rfl⟩ ?_
  rintro j u _ ⟨i, hi, e8, hn, rfl⟩
  by_cases hlt : i < l.length
  · obtain ⟨x, hx⟩ : ∃ x, l[i]? = some x := ⟨_, List.getElem?_eq_getElem hlt⟩
    have hg : (l.map fmC)[(i : Int).toNat]? = some (fmC x) := by rw [Int.toNat_natCast, List.getElem?_map, hx]; rfl
    have xs := fmC_sc (x := x)
    have xl := fmC_len (x := x) ⟨trivial⟩
    have xa := fmC_all (x := x) ⟨trivial⟩
    have q0 := eqC_fm f x
    have ft : (l.take (i + 1)).findIdx? (fun x => decide (x = f)) = if x = f then some i else none := by
      rw [List.take_add_one, hx, List.findIdx?_append, hn]
      simp [List.findIdx?_cons, Nat.min_eq_left (Nat.le_of_lt hlt)]
    by_cases hp : f = x
    · rw [decide_eq_true hp] at q0
      rw [if_pos hp.symm] at ft
      have e : fidx l f = i := by
        unfold fidx
        have h2 : l.findIdx? (fun x => decide (x = f)) = some i := by
          conv => lhs; rw [← List.take_append_drop (i + 1) l]
          rw [List.findIdx?_append, ft]; rfl
        rw [h2]
      rw [e] at hk
      refine W ?_
      exact hk
    · rw [decide_eq_false hp] at q0
      rw [if_neg (Ne.symm hp)] at ft
      refine W ?_
      exact ⟨j - 1, by omega, i + 1, by omega, rfl, ft, rfl⟩
  · have e : fidx l f = -1 := by
      unfold fidx
      rw [List.take_of_length_le (by omega)] at hn
      rw [hn]
    rw [e] at hk
    refine W ?_
    exact hk
theorem fidx_mem (l : List Fm) (f : Fm) : (0 ≤ fidx l f) ↔ f ∈ l := by
  unfold fidx
  cases h : l.findIdx? (fun x => decide (x = f)) with
  | none =>
    rw [List.findIdx?_eq_none_iff] at h
    simp only [decide_eq_false_iff_not] at h
    exact ⟨fun h => absurd h (by decide), fun hm => absurd rfl (h f hm)⟩
  | some i =>
    obtain ⟨h1, h2, _⟩ := List.findIdx?_eq_some_iff_getElem.1 h
    have h2 := of_decide_eq_true h2
    exact ⟨fun _ => h2 ▸ List.getElem_mem h1, fun _ => Int.natCast_nonneg i⟩
theorem uContF {l : List Fm} {f : Fm} (hl : l.length ≤ 140737488355328) : U Tryz.prog 46 [.sl (l.map fmC), .agg (fmC f)] (.bool (decide (f ∈ l))) := by
  intro σ Post hk
  have fs := fmC_sc (x := f)
  have fl := fmC_len (x := f) ⟨trivial⟩
  have fa := fmC_all (x := f) ⟨trivial⟩
  have hm := fidx_mem l f
  refine T46 fun hB hA => ?_
  refine W ?_
  refine cu (uIndexF hl) ?_
  by_cases h : f ∈ l
  · rw [decide_eq_true h] at hk
    have h0 := hm.2 h
    refine W ?_
    exact hk
  · rw [decide_eq_false h] at hk
    have h0 : ¬ 0 ≤ fidx l f := fun e => h (hm.1 e)
    refine W ?_
    exact hk
end Go.Proofs.YtocnjlfnapefjaaGreatDoor
