/- Sorting a row of texts, out of its contract. -/
import Derived.Test.YtocnjlfnapefjaaGreatDoorED
import Derived.Sort.Grow
import Derived.Shelf.Sort.Plain
namespace Go.V
open Go Go.Sort Go.RowKit Go.Proofs
theorem grow_sim {σ β w w'} {os : Array Obj} (h : Sim σ β w) (hos : w'.os = w.os) (ht : w'.tape = w.tape) (hout : w'.output = w.output) (hheap : w'.heap = w.heap ++ os) : Step σ β w σ β w' ∧ Sim σ β w' := by
  have old : ∀ b : Nat, b < w.heap.size → w'.heap[b]? = w.heap[b]? := fun b hb => by rw [hheap, Array.getElem?_append_left hb]
  have hs : Step σ β w σ β w' :=
    ⟨hos, ht, hout, by rw [hheap]; simp, fun b hb _ => old b hb, fun a v hc _ => by rw [cell_of_heap (old _ (cell_lt hc))]; exact hc, fun _ _ h => h, fun _ _ _ h => h,
      fun b arr ty fr hb => ⟨arr, (old b (Array.getElem?_eq_some_iff.1 hb).1).trans hb, rfl⟩, fun i gi oi h1 => ⟨gi, oi, h1, Nat.le_refl _, fun _ => ⟨oi.alike_refl, rfl⟩⟩⟩
  refine ⟨hs, fun i gi oi h1 => ?_, h.inj⟩
  by_cases hl : oi.live
  · exact (h.obj i gi oi h1).step hs fun b hb => old b (h.lt h1 hl hb)
  · cases oi <;> simp [VObj.live] at hl; trivial

theorem T_sortStr [Glob] {P : Program} {f : FuncId}
    (hS : ∀ (blk off cap : Nat) (ss : List (List UInt8)) (w : World), Holds encStr w blk off ss.toArray → blk < w.heap.size → ss.length < 4611686018427387904 →
      Calls P f #[.slice (some ⟨blk, off, none⟩) ss.length cap] w fun e w' => e = .returned (.tuple #[]) ∧ ∃ n os, w' = grow (putRow encStr (Sort.ahead w n) blk off (ss.mergeSort fun x y => decide (x ≤ y)).toArray) os)
    (hN : ∀ (p : Option Addr) (cap : Nat) (w : World), Calls P f #[.slice p 0 cap] w fun e w' => e = .returned (.tuple #[]) ∧ w' = w)
    {σ : VHeap} {id g : Nat} {ss : List (List UInt8)} {Post : KP} (hg : vGet σ id g = some (.row 1 (strRow ss) false)) (hlen : ss.length < 4611686018427387904)
    (k : Post (.tup []) (σ.set id (g, .row 1 (strRow (ss.mergeSort fun x y => decide (x ≤ y))) false))) : T P f [.row id g] σ Post := by
  have hg' := vGet_some hg
  intro w β vs hl hr hs _
  match vs, hl with
  | ⟨[v]⟩, _ =>
  have hv := hr 0 (.row id g) v rfl rfl
  have empty : ∀ p cap, ss = [] → Calls P f #[.slice p 0 cap] w fun e w' => ∃ v r σ' β', e = .returned v ∧ Post r σ' ∧ Rep w' σ' β' r v ∧ Sim σ' β' w' ∧ Step σ β w σ' β' w' := by
    intro p cap he
    subst he
    refine (hN p cap w).mono ?_
    rintro e w' ⟨rfl, rfl⟩
    have : σ.set id (g, .row 1 (strRow (([] : List (List UInt8)).mergeSort fun x y => decide (x ≤ y))) false) = σ := by
      apply List.ext_getElem?; intro j
      by_cases e : id = j
      · subst e; rw [List.getElem?_set_self (List.getElem?_eq_some_iff.1 hg').1, hg']; simp [strRow]
      · rw [List.getElem?_set_ne e]
    rw [this] at k
    exact ⟨_, _, _, β, rfl, k, .tup [] #[] rfl (by simp), hs, Step.refl _ _ _⟩
  cases hv with
  | stalerow _ _ g' o p n c h hgt => rw [hg'] at h; cases h; omega
  | rownil _ _ sz fz ad h hb =>
    rw [hg'] at h
    simp only [Option.some.injEq, Prod.mk.injEq, VObj.row.injEq, true_and] at h
    exact empty ad 0 (by have := h.2.1; simpa [strRow] using this)
  | row _ _ b sz cap es fz arr ty fr h hb hh hc hsz =>
    rw [hg'] at h
    simp only [Option.some.injEq, Prod.mk.injEq, VObj.row.injEq, true_and] at h
    obtain ⟨rfl, rfl, rfl⟩ := h
    have hlen' : (strRow ss).length = ss.length := by simp [strRow]
    by_cases h0 : ss = []
    · subst h0; exact empty _ _ rfl
    · have ho := hs.obj id g _ hg'
      rcases ho with ⟨_, he⟩ | ⟨b', arr', e1, hcl, hle, hall, hre⟩
      · simp [strRow] at he; exact (h0 he).elim
      · rw [hb] at e1; cases e1
        obtain ⟨ty', fr', hheap, hfr⟩ := hcl
        have harr : arr' = arr := by rw [hheap] at hh; cases hh; rfl
        subst harr
        rw [hlen'] at hle
        have hcell : ∀ j, j < ss.length → arr'[j]? = some (encStr ss[j]!) := by
          intro j hj
          have hj2 : j < arr'.size := by omega
          have := hre j [.str (ss[j])] 0 (.str ss[j]) (arr'[j]) (by simp [strRow, hj]) rfl (by simp [hj2])
          rw [Array.getElem?_eq_getElem hj2]
          obtain ⟨u, hu1, hu2⟩ := rep_str this
          rw [hu1, List.getElem!_eq_getElem?_getD, List.getElem?_eq_getElem hj, Option.getD_some, ← hu2]
        rw [hlen']
        have hH : Holds encStr w b 0 ss.toArray := by
          intro j hj
          have hj' : j < ss.length := by simpa using hj
          have hcl' : Cells w b arr' := ⟨ty', fr', hheap, hfr⟩
          refine ⟨?_, ?_⟩
          · rw [hcl'.cell, Nat.zero_add, hcell j hj']; simp
          · exact hcl'.free (by omega)
        refine (hS b 0 cap ss w hH (Array.getElem?_eq_some_iff.1 hheap).1 hlen).mono ?_
        rintro e w' ⟨rfl, n, os, rfl⟩
        have hsl : (ss.mergeSort fun x y => decide (x ≤ y)).length = ss.length := by simp
        generalize hso : (ss.mergeSort fun x y => decide (x ≤ y)) = so at k hsl
        have h1 := put_sim (w' := putRow encStr (Sort.ahead w n) b 0 so.toArray) (o' := .row 1 (strRow so) false) (obj' := .cells (putCells encStr 0 so.toArray arr') ty' fr') hs hg' trivial hb rfl rfl rfl hheap
          (by
            unfold putRow mapBlock
            apply Array.ext_getElem?
            intro j
            show (w.heap.modify b _)[j]? = _
            rw [Array.getElem?_modify]
            by_cases e : b = j
            · subst e; rw [if_pos rfl, hheap, Array.getElem?_setIfInBounds_self_of_lt (Array.getElem?_eq_some_iff.1 hheap).1]; rfl
            · rw [if_neg e, Array.getElem?_setIfInBounds_ne e])
          ⟨rfl, by simp [strRow, hsl]⟩ (fun i hi => by simp [VObj.may]) (fun i v _ hm => by simp [VObj.may] at hm)
          (fun arr ty fr e => by cases e; exact ⟨_, rfl, by simp [putCells]⟩)
          (fun hst => .inr ⟨b, _, rfl, ⟨ty', fr', by
              show (w.heap.modify b _)[b]? = _
              rw [Array.getElem?_modify, if_pos rfl, hheap]; rfl, fun i hi => hfr i (by simpa [putCells] using hi)⟩, by simp [strRow, putCells, hsl]; omega, by simp [strRow], fun i e j c v g1 g2 g3 => by
            simp only [strRow, List.getElem?_map] at g1
            cases hsi : so[i]? with
            | none => rw [hsi] at g1; cases g1
            | some s =>
              rw [hsi] at g1; cases g1
              have hi := (List.getElem?_eq_some_iff.1 hsi).1
              cases j with
              | succ j => simp at g2
              | zero =>
                simp at g2; subst g2
                simp only [Nat.mul_one, Nat.add_zero, putCells, Array.getElem?_mapIdx] at g3
                cases hai : arr'[i]? with
                | none => rw [hai] at g3; cases g3
                | some x =>
                  rw [hai] at g3
                  simp only [Option.map_some, Option.some.injEq] at g3
                  rw [if_pos (by simp; exact hi)] at g3
                  subst g3
                  have : so.toArray[i - 0]! = s := by simp [getElem!_pos, hi, (List.getElem?_eq_some_iff.1 hsi).2]
                  rw [this]
                  exact (Rep.str (⟨s.toArray⟩ : ByteArray) : Rep _ _ _ (.str (⟨s.toArray⟩ : ByteArray).data.toList) _)⟩)
        obtain ⟨s1, m1⟩ := h1
        obtain ⟨s2, m2⟩ := grow_sim (os := os) (w' := grow (putRow encStr (Sort.ahead w n) b 0 so.toArray) os) m1 rfl rfl rfl rfl
        exact ⟨_, _, _, β, rfl, k, .tup [] #[] rfl (by simp), m2, s1.trans s2⟩
end Go.V
