/- Contracts of the shelf as triples. -/
import Derived.Test.YtdkjcadffhnjgaaDoorVS
import Derived.Below
import Derived.Sort.Grow
import Derived.Lib.LaidTab
import Derived.Lib.ItoaNum
import Derived.Deep.Draws
namespace Go.V
open Go
open Go.RowKit (Below)
open Go.Sort (grow)
theorem below_sim {σ β w w'} (h : Sim σ β w) (hb : Below w.heap.size w w') : Step σ β w σ β w' ∧ Sim σ β w' := by
  have old : ∀ b : Nat, b < w.heap.size → w'.heap[b]? = w.heap[b]? := hb.block
  have hs : Step σ β w σ β w' :=
    ⟨hb.os, hb.tape, hb.output, hb.size, fun b hb _ => old b hb, fun a v hc _ => by rw [cell_of_heap (old _ (cell_lt hc))]; exact hc, fun _ _ h => h, fun _ _ _ h => h,
      fun b arr ty fr hb => ⟨arr, (old b (Array.getElem?_eq_some_iff.1 hb).1).trans hb, rfl⟩, fun i gi oi h1 => ⟨gi, oi, h1, Nat.le_refl _, fun _ => ⟨oi.alike_refl, rfl⟩⟩⟩
  refine ⟨hs, fun i gi oi h1 => ?_, h.inj⟩
  by_cases hl : oi.live
  · exact (h.obj i gi oi h1).step hs fun b hb => old b (h.lt h1 hl hb)
  · cases oi <;> simp [VObj.live] at hl; trivial
theorem below_grow (w : World) (k : Nat) (os : Array Obj) : Below w.heap.size w (grow (w.drewN k) os) :=
  ⟨rfl, rfl, rfl, by simp [grow, World.drewN], fun b hb => by simp [grow, World.drewN, Array.getElem?_append_left hb]⟩
/-- A function that answers a text and leaves memory below the heap's end alone. -/
theorem U_text [Glob] {P : Program} {f : FuncId} {args : List PV} {r : List UInt8}
    (h : ∀ (w : World) (σ : VHeap) (β : Beta) (vs : Array Value), vs.size = args.length → (∀ (i : Nat) (c : PV) (v : Value), args[i]? = some c → vs[i]? = some v → Rep w σ β c v) → Sim σ β w → GloRep w σ β →
      Calls P f vs w fun e w' => e = .returned (.string ⟨r.toArray⟩) ∧ Below w.heap.size w w') : U P f args (.str r) := by
  intro σ Post hk w β vs h1 h2 h3 h4
  refine (h w σ β vs h1 h2 h3 h4).mono ?_
  rintro e w' ⟨rfl, hb⟩
  obtain ⟨s1, s2⟩ := below_sim h3 hb
  exact ⟨_, _, σ, β, rfl, hk, Rep.str (⟨r.toArray⟩ : ByteArray), s2, s1⟩
theorem rep_str {w σ β} {l : List UInt8} {v : Value} (h : Rep w σ β (.str l) v) : ∃ s : ByteArray, v = .string s ∧ s.data.toList = l := by
  cases h; exact ⟨_, rfl, rfl⟩
theorem rep_int {w σ β} {k : IntKind} {n : Int} {v : Value} (h : Rep w σ β (.int k n) v) : v = .int k n := by
  cases h; rfl
/-- A table of numbers, as the shelf's contracts want it. -/
theorem GloRep.tab [Glob] {P : Program} {w σ β} {name : String} {g : Nat} {k : IntKind} {zs : List Int} {cells : List PV} (h : GloRep w σ β) (hg : P.globalNamed name = some g) (ht : Glob.tab g = some cells) (hz : cells = zs.map fun z => .int k z) : Lib.TabIs P w name k zs := by
  subst hz
  obtain ⟨f, h1, h2, arr, ty, fr, h3, h4⟩ := h g _ ht
  unfold Lib.TabIs World.var?
  rw [hg, Option.bind_some]
  simp only [h3]
  congr 1
  apply Array.ext
  · rw [h4]; simp
  · intro i hi1 hi2
    have hi : i < zs.length := by simpa using hi2
    have h5 := (h1 i (by simpa using hi)).1
    have h6 := rep_int (h2 i (.int k zs[i]) (by simp [hi]))
    have h7 : w.cell? ((⟨g, 0, none⟩ : Addr).add i) = arr[i]? := by
      unfold World.cell? Addr.add
      by_cases e : i = 0
      · subst e; simp only [if_true, h3]; simp
      · rw [if_neg e]; simp only [h3]; simp
    rw [h7, h6, Array.getElem?_eq_getElem hi1] at h5
    have h8 := Option.some.inj h5
    rw [h8]; simp
/-- Texts as the elements of a slice. -/
@[reducible] def strRow (ss : List (List UInt8)) : List (List PV) := ss.map fun s => [.str s]
theorem U_join [Glob] {P : Program} {f : FuncId} {jn : List (List UInt8) → List UInt8 → List UInt8}
    (h0 : ∀ (a : Option Addr) (c : Nat) (sep : ByteArray) (w : World), Calls P f #[.slice a 0 c, .string sep] w fun e w' => e = .returned (.string ⟨#[]⟩) ∧ w' = w)
    (h1 : ∀ (bk o c : Nat) (xs : List ByteArray) (sep : ByteArray) (w : World), (∀ (j : Nat) x, xs[j]? = some x → w.cell? ⟨bk, o + j, none⟩ = some (.string x)) → bk < w.heap.size → xs.length ≤ 140737488355328 → xs.length ≤ c →
      (jn (xs.map (·.data.toList)) sep.data.toList).length ≤ 140737488355328 →
      Calls P f #[.slice (some ⟨bk, o, none⟩) xs.length c, .string sep] w fun e w' => e = .returned (.string ⟨(jn (xs.map (·.data.toList)) sep.data.toList).toArray⟩) ∧ Below w.heap.size w w')
    (hj : ∀ s, jn [] s = []) {ss : List (List UInt8)} {sep : List UInt8} (hN : ss.length ≤ 140737488355328) (hl : (jn ss sep).length ≤ 140737488355328) : U P f [.sl (strRow ss), .str sep] (.str (jn ss sep)) := by
  refine U_text fun w σ β vs hs hr hS hG => ?_
  match vs, hs with
  | ⟨[v, u]⟩, _ =>
  obtain ⟨sp, rfl, rfl⟩ := rep_str (hr 1 (.str sep) u rfl rfl)
  have hv := hr 0 (.sl (strRow ss)) v rfl rfl
  cases hv with
  | sl _ sz n cap a fv hn hc hsz ha h =>
    by_cases e0 : ss = []
    · subst e0
      have : n = 0 := by rw [← hn]; rfl
      subst this
      rw [hj]
      refine (h0 a cap sp w).mono ?_
      rintro e w' ⟨rfl, rfl⟩
      exact ⟨rfl, Below.refl _ _⟩
    · have hn2 : ss.length = n := by rw [← hn]; simp
      have hpos : 0 < ss.length := by cases ss with
        | nil => exact (e0 rfl).elim
        | cons _ _ => simp
      have hz : sz = 1 := by
        cases ss with
        | nil => exact (e0 rfl).elim
        | cons s r => exact (hsz [.str s] (by simp)).symm
      subst hz
      obtain ⟨a0, rfl, hst⟩ := ha (by omega)
      have hc0 := (hst 0 (by omega)).1
      have hsp : a0.spot = none := by
        unfold World.cell? Addr.add at hc0
        rw [if_pos rfl] at hc0
        split at hc0
        · split at hc0
          · cases hc0
          · rename_i h9; simpa using h9
        · cases hc0
      have hblk : a0.block < w.heap.size := by
        have := cell_lt hc0
        simpa [Addr.add] using this
      obtain ⟨bk, o, sp0⟩ := a0
      simp only at hsp hblk
      subst hsp
      have hx : ∀ j, (hj : j < ss.length) → fv j = .string ⟨ss[j].toArray⟩ := fun j hj => by
        obtain ⟨s, e1, e2⟩ := rep_str (h j [.str ss[j]] 0 (.str ss[j]) (by simp [hj]) rfl)
        rw [Nat.mul_one, Nat.add_zero] at e1
        rw [e1, ← e2]
      have hm : (ss.map fun s => (⟨s.toArray⟩ : ByteArray)).map (·.data.toList) = ss := by
        rw [List.map_map]
        conv => rhs; rw [← List.map_id ss]
        exact List.map_congr_left fun s _ => rfl
      have hlen : (ss.map fun s => (⟨s.toArray⟩ : ByteArray)).length = n := by rw [List.length_map, hn2]
      have := h1 bk o cap (ss.map fun s => (⟨s.toArray⟩ : ByteArray)) sp w (fun j x hj2 => by
        rw [List.getElem?_map] at hj2
        cases h8 : ss[j]? with
        | none => rw [h8] at hj2; cases hj2
        | some s =>
          rw [h8] at hj2
          simp only [Option.map_some, Option.some.injEq] at hj2
          subst hj2
          obtain ⟨h9, h10⟩ := List.getElem?_eq_some_iff.1 h8
          have h11 := (hst j (by omega)).1
          rw [hx j h9, h10] at h11
          rw [← h11]
          congr 1
          unfold Addr.add
          by_cases e : j = 0
          · subst e; simp
          · rw [if_neg e]) hblk (by omega) (by omega) (by rw [hm]; exact hl)
      rw [hm, hlen] at this
      exact this
end Go.V
