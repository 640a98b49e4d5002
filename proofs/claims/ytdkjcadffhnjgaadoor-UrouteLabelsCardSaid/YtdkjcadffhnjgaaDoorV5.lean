/- Stores, boxes, literals. -/
import Derived.Test.YtdkjcadffhnjgaaDoorV4
namespace Go.V
open Go

/-- Cells written one behind the other. -/
def wset (arr : Array Value) (off : Nat) : List Value → Array Value
  | [] => arr
  | v :: vs => wset (arr.setIfInBounds off v) (off + 1) vs

theorem wset_size (vs : List Value) : ∀ (arr : Array Value) (off : Nat), (wset arr off vs).size = arr.size := by
  induction vs with
  | nil => intro arr off; rfl
  | cons v vs ih => intro arr off; rw [wset, ih]; simp

theorem wset_get (vs : List Value) : ∀ (arr : Array Value) (off k : Nat), off + vs.length ≤ arr.size →
    (wset arr off vs)[k]? = if off ≤ k ∧ k < off + vs.length then vs[k - off]? else arr[k]? := by
  induction vs with
  | nil => intro arr off k _; rw [wset, if_neg (by simp)]
  | cons v vs ih =>
    intro arr off k h
    simp only [List.length_cons] at h ⊢
    rw [wset, ih _ _ _ (by simp; omega)]
    by_cases e : k = off
    · subst e
      rw [if_neg (by omega), if_pos (by omega), Nat.sub_self, Array.getElem?_setIfInBounds_self_of_lt (by omega)]; rfl
    · rw [Array.getElem?_setIfInBounds_ne (Ne.symm e)]
      by_cases h2 : off + 1 ≤ k ∧ k < off + 1 + vs.length
      · rw [if_pos h2, if_pos (by omega)]
        have : k - off = (k - (off + 1)) + 1 := by omega
        rw [this, List.getElem?_cons_succ]
      · rw [if_neg h2, if_neg (by omega)]

/-- A value that may lie in a cell. -/
def celly : Value → Bool
  | .agg _ => false
  | .tuple _ => false
  | _ => true

theorem celly_of {w σ β c v} (h : Rep w σ β c v) (hs : scalar c = true) : celly v = true := by
  cases h <;> first | rfl | simp [scalar] at hs

section
variable {P : Program}

def World.setBlock (w : World) (b : Nat) (o : Obj) : World := { w with heap := w.heap.setIfInBounds b o }

theorem run_store_cell {w : World} {b i : Nat} {arr : Array Value} {ty : TypeId} {fr : Nat × Nat} (hb : w.heap[b]? = some (.cells arr ty fr)) (hi : i < arr.size) (hf : ¬ (fr.1 ≤ i ∧ i < fr.2))
    {v : Value} (hv : celly v = true) : (store ⟨b, i, none⟩ v).run P w = .ok () (World.setBlock w b (.cells (arr.setIfInBounds i v) ty fr)) := by
  have h1 : w.cell? ⟨b, i, none⟩ = some arr[i] := by simp [World.cell?, hb, hi]
  have h2 : w.frozen? ⟨b, i, none⟩ = false := by simp [World.frozen?, hb]; omega
  have h3 : w.setCell ⟨b, i, none⟩ v = World.setBlock w b (.cells (arr.setIfInBounds i v) ty fr) := by
    unfold World.setCell World.setBlock
    congr 1
    apply Array.ext_getElem?
    intro j
    rw [Array.getElem?_modify, Array.getElem?_setIfInBounds]
    by_cases e : b = j
    · subst e
      obtain ⟨hlt, hb2⟩ := Array.getElem?_eq_some_iff.1 hb
      simp [hlt, hb2]
    · simp [e]
  cases v <;> first | (simp [celly] at hv; done) | simp [store, Sem.run, h1, h2, h3]

theorem setBlock_setBlock (w : World) (b : Nat) (o o' : Obj) : World.setBlock (World.setBlock w b o) b o' = World.setBlock w b o' := by
  unfold World.setBlock
  congr 1
  apply Array.ext_getElem?
  intro j
  simp only [Array.getElem?_setIfInBounds, Array.size_setIfInBounds]
  split <;> rfl

theorem run_storeCells {b : Nat} {ty : TypeId} {fr : Nat × Nat} : ∀ (vs : List Value) (w : World) (arr : Array Value) (off i : Nat), w.heap[b]? = some (.cells arr ty fr) → off + i + vs.length ≤ arr.size →
    (∀ k, k < arr.size → ¬ (fr.1 ≤ k ∧ k < fr.2)) → (∀ v, v ∈ vs → celly v = true) →
    (storeCells ⟨b, off, none⟩ vs i).run P w = .ok () (if vs = [] then w else World.setBlock w b (.cells (wset arr (off + i) vs) ty fr)) := by
  intro vs
  induction vs with
  | nil => intro w arr off i h1 h2 h3 h4; simp [storeCells]
  | cons v vs ih =>
    intro w arr off i h1 h2 h3 h4
    simp only [List.length_cons] at h2
    rw [if_neg (by simp)]
    simp only [storeCells, Sem.run_bind]
    rw [add_mk, run_store_cell h1 (by omega) (h3 _ (by omega)) (h4 v (by simp))]
    simp only [Result.andThen_ok]
    have hlt := (Array.getElem?_eq_some_iff.1 h1).1
    rw [ih (World.setBlock w b (.cells (arr.setIfInBounds (off + i) v) ty fr)) (arr.setIfInBounds (off + i) v) off (i + 1)
      (by simp [World.setBlock, hlt]) (by simp; omega) (by simpa using h3) (fun u hu => h4 u (by simp [hu]))]
    congr 1
    split
    · rename_i e; subst e; rw [wset, wset]
    · rw [setBlock_setBlock, wset, Nat.add_assoc]

variable {o : Oper} {a : Act} {σ : VHeap} {β : Beta} {w : World} {env : Env} {K : KP}

theorem splice_get (cs vs : List PV) (off k : Nat) (h : off + vs.length ≤ cs.length) : (splice cs off vs)[k]? = if off ≤ k ∧ k < off + vs.length then vs[k - off]? else cs[k]? := by
  unfold splice
  have h1 : (cs.take off).length = off := by simp; omega
  by_cases hk : k < off
  · rw [if_neg (by omega), List.append_assoc, List.getElem?_append_left (by omega), List.getElem?_take, if_pos hk]
  · rw [List.append_assoc, List.getElem?_append_right (by omega), h1]
    by_cases hk2 : k < off + vs.length
    · rw [if_pos (by omega), List.getElem?_append_left (by omega)]
    · rw [if_neg (by omega), List.getElem?_append_right (by omega), List.getElem?_drop]
      congr 1; omega
theorem splice_length (cs vs : List PV) (off : Nat) (h : off + vs.length ≤ cs.length) : (splice cs off vs).length = cs.length := by unfold splice; simp; omega

theorem pcells_rep {c : PV} {v : Value} (h : Rep w σ β c v) (hs : (pcells c).all scalar = true) : (pcells c).length = v.cells.size ∧ (∀ u, u ∈ v.cells → celly u = true) ∧
    ∀ (i : Nat) (d : PV) (u : Value), (pcells c)[i]? = some d → v.cells[i]? = some u → Rep w σ β d u := by
  by_cases hc : ∃ cs, c = .agg cs
  · obtain ⟨cs, rfl⟩ := hc
    cases h with
    | agg _ us hl hr =>
      refine ⟨hl, fun u hu => ?_, hr⟩
      obtain ⟨i, hi, rfl⟩ := Array.mem_iff_getElem.1 hu
      simp only [Value.cells] at hi
      have h1 : i < cs.length := by omega
      refine celly_of (hr i cs[i] us[i] (List.getElem?_eq_getElem h1) (Array.getElem?_eq_getElem hi)) ?_
      exact List.all_eq_true.1 hs _ (List.getElem_mem h1)
  · have e : pcells c = [c] := by cases c <;> first | rfl | exact (hc ⟨_, rfl⟩).elim
    rw [e] at hs ⊢
    have hcv : celly v = true := celly_of h (by simpa using hs)
    have e2 : v.cells = #[v] := by cases v <;> first | rfl | simp [celly] at hcv
    rw [e2]
    refine ⟨rfl, by simpa using hcv, fun i d u h1 h2 => ?_⟩
    have hi : i = 0 := by
      have := (List.getElem?_eq_some_iff.1 h1).1
      simp at this; omega
    subst hi
    simp at h1 h2; subst h1; subst h2; exact h

def sizeT (P : Program) (t : TypeId) : Option Nat := (P.info? t).map (·.size)

theorem s_store [Glob] {t : TypeId} {x v : Operand} {x' v' : VA} {sz : Nat} (ho : o.op = .store t x v) (hsz : sizeT P t = some sz) (hx : cA x = some x') (hv : cA v = some v') (hf : FrameRep w σ β env a) (hs : Sim σ β w)
    (hk : vStore sz (va env x') (va env v') σ K) : OpS P o a σ β w K := by
  have h1 := hf.eval hx
  have h2 := hf.eval hv
  obtain ⟨hlen, hall, hk⟩ := hk
  obtain ⟨e1, e2, e3⟩ := pcells_rep h2 hall
  unfold sizeT at hsz
  cases hi : P.info? t with
  | none => rw [hi] at hsz; simp at hsz
  | some i =>
  rw [hi] at hsz; simp at hsz
  have main : ∀ {id g b off : Nat} {ob ob' : VObj} {arr : Array Value}, a.eval x = .pointer (some ⟨b, off, none⟩) → σ[id]? = some (g, ob) → ob.live → β id = some b → Cells w b arr → off + sz ≤ arr.size →
      ob.alike ob' → (∀ i, ob'.may i → ob.may i) → (∀ j, j < arr.size → ¬ ob.may j → ¬ (off ≤ j ∧ j < off + sz)) →
      (∀ w', Step σ β w (σ.set id (g, ob')) β w' → Cells w' b (wset arr off (a.eval v).cells.toList) → ORep w' (σ.set id (g, ob')) β (some b) ob') → K .undef (σ.set id (g, ob')) → OpS P o a σ β w K := by
    intro id g b off ob ob' arr he hid hl hb ⟨ty, fr, hc1, hc2⟩ hle hal hmay hno hor hk
    have hrun : (storeCells ⟨b, off, none⟩ (a.eval v).cells.toList 0).run P w = _ := run_storeCells (P := P) (a.eval v).cells.toList w arr off 0 hc1 (by simp; omega) hc2 (by simpa using e2)
    by_cases hnil : (a.eval v).cells.toList = []
    · have hz : sz = 0 := by have : (a.eval v).cells.size = 0 := by simpa using congrArg List.length hnil
                             omega
      rw [if_pos hnil] at hrun
      have hp := put_sim (w' := w) (o' := ob') (obj := .cells arr ty fr) (obj' := .cells arr ty fr) hs hid hl hb rfl rfl rfl hc1 (by
        apply Array.ext_getElem?; intro j; rw [Array.getElem?_setIfInBounds]
        split
        · rename_i e; subst e; rw [if_pos (Array.getElem?_eq_some_iff.1 hc1).1, hc1]
        · rfl) hal hmay (fun _ _ h _ => h) (fun arr' ty' fr' e => ⟨arr', e, rfl⟩) (fun hst => hor w hst ⟨ty, fr, by rw [hnil]; exact hc1, by rw [hnil]; exact hc2⟩)
      refine OpS.skip (w' := w) ?_ hk hp.2 hp.1
      simp [execOp, ho, he, Instr.storeAt, Instr.sureAddr, storeVar, sizeOf, typeInfo, program, Sem.run, hi, hrun, hsz, ← e1, hlen]
    · rw [if_neg hnil] at hrun
      have hp := put_sim (w' := World.setBlock w b (.cells (wset arr off (a.eval v).cells.toList) ty fr)) (o' := ob') (obj := .cells arr ty fr) (obj' := .cells (wset arr off (a.eval v).cells.toList) ty fr) hs hid hl hb rfl rfl rfl hc1 rfl hal hmay (by
        intro j u hj hm
        have hlt := (Array.getElem?_eq_some_iff.1 hc1).1
        simp only [World.cell?, hc1, World.setBlock, Array.getElem?_setIfInBounds_self_of_lt hlt] at hj ⊢
        simp at hj ⊢
        have hj2 := (Array.getElem?_eq_some_iff.1 hj).1
        rw [wset_get _ _ _ _ (by simp; omega), if_neg (by have := hno j hj2 hm; simp; omega)]
        exact hj) (fun arr' ty' fr' e => by cases e; exact ⟨_, rfl, wset_size _ _ _⟩)
        (fun hst => hor _ hst ⟨ty, fr, by simp [World.setBlock, (Array.getElem?_eq_some_iff.1 hc1).1], by rw [wset_size]; exact hc2⟩)
      refine OpS.skip (w' := World.setBlock w b (.cells (wset arr off (a.eval v).cells.toList) ty fr)) ?_ hk hp.2 hp.1
      simp [execOp, ho, he, Instr.storeAt, Instr.sureAddr, storeVar, sizeOf, typeInfo, program, Sem.run, hi, hrun, hsz, ← e1, hlen]
  generalize hc0 : va env x' = c0 at *
  split at hk
  · rename_i id g off
    split at hk
    · rename_i cs hg
      have hg' := vGet_some hg
      obtain ⟨hle, hk⟩ := hk
      generalize he : a.eval x = ex at *
      cases h1 with
      | stalep _ _ _ g' o' p h5 h6 => rw [hg'] at h5; cases h5; omega
      | ptr _ _ _ b cs' fz' h5 hb =>
        obtain ⟨b', arr, e, hcl, hlen', hre⟩ := hs.obj id g _ hg'
        rw [hb] at e; cases e
        refine main (ob' := .box (splice cs off (pcells (va env v'))) false) rfl hg' trivial hb hcl (by omega) (by rw [VObj.alike, splice_length _ _ _ (by omega)]) (fun i h => h) (fun j _ h => absurd rfl h) (fun w' hst hcl' => ?_) hk
        refine ⟨b, _, rfl, hcl', by rw [splice_length _ _ _ (by omega), wset_size, hlen'], fun i c u h6 h7 => ?_⟩
        rw [splice_get _ _ _ _ (by omega)] at h6
        rw [wset_get _ _ _ _ (by simp; omega)] at h7
        split at h6
        · rename_i hin
          rw [if_pos (by simp; omega)] at h7
          exact (e3 _ c u h6 (by simpa using h7)).step hst
        · rename_i hout
          rw [if_neg (by simp; omega)] at h7
          exact (hre i c u h6 h7).step hst
    · exact hk.elim
  · rename_i id g i0 off
    split at hk
    · rename_i s es hg
      have hg' := vGet_some hg
      split at hk
      · rename_i e0 hes
        obtain ⟨hle, hk⟩ := hk
        generalize he : a.eval x = ex at *
        cases h1 with
        | stalerp _ _ _ _ g' o' p h5 h6 => rw [hg'] at h5; cases h5; omega
        | rptr _ _ _ _ b sz' es' fz' h5 hb =>
          rw [hg'] at h5; cases h5
          rcases hs.obj id g _ hg' with ⟨e, _⟩ | ⟨b', arr, e, hcl, hlen', hel, hre⟩
          · rw [hb] at e; cases e
          · rw [hb] at e; cases e
            have h4 : i0 < es.length := (List.getElem?_eq_some_iff.1 hes).1
            have h9 : e0.length = s := hel e0 (List.mem_of_getElem? hes)
            have h10 : (i0 + 1) * s ≤ es.length * s := Nat.mul_le_mul_right _ h4
            rw [Nat.add_mul] at h10
            refine main (ob' := .row s (es.set i0 (splice e0 off (pcells (va env v')))) false) rfl hg' trivial hb hcl (by omega) (by simp [VObj.alike]) (fun i h => by simp [VObj.may]) (fun j _ h => absurd (by simp [VObj.may]) h) (fun w' hst hcl' => ?_) hk
            refine .inr ⟨b, _, rfl, hcl', by rw [List.length_set, wset_size]; exact hlen', ?_, fun i e j c u h6 h7 h8 => ?_⟩
            · intro e he
              rcases List.mem_or_eq_of_mem_set he with h | h
              · exact hel e h
              · rw [h, splice_length _ _ _ (by omega), h9]
            · rw [wset_get _ _ _ _ (by simp; omega)] at h8
              by_cases hi0 : i = i0
              · subst hi0
                rw [List.getElem?_set_self h4] at h6; cases h6
                rw [splice_get _ _ _ _ (by omega)] at h7
                split at h7
                · rename_i hin
                  rw [if_pos (by simp; omega)] at h8
                  refine (e3 _ c u h7 ?_).step hst
                  have : i * s + j - (i * s + off) = j - off := by omega
                  rw [this] at h8; simpa using h8
                · rename_i hout
                  rw [if_neg (by simp; omega)] at h8
                  exact (hre i e0 j c u hes h7 h8).step hst
              · rw [List.getElem?_set_ne (Ne.symm hi0)] at h6
                have hj : j < s := by rw [← hel e (List.mem_of_getElem? h6)]; exact (List.getElem?_eq_some_iff.1 h7).1
                rw [if_neg] at h8
                · exact (hre i e j c u h6 h7 h8).step hst
                · simp only [Array.length_toList]
                  rcases Nat.lt_or_gt_of_ne hi0 with hlt | hgt
                  · have : (i + 1) * s ≤ i0 * s := Nat.mul_le_mul_right _ hlt
                    rw [Nat.add_mul] at this; omega
                  · have : (i0 + 1) * s ≤ i * s := Nat.mul_le_mul_right _ hgt
                    rw [Nat.add_mul] at this; omega
      · exact hk.elim
    · exact hk.elim
  · exact hk.elim

end
end Go.V
