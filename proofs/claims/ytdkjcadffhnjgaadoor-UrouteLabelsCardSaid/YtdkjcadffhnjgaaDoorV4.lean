/- The operations on memory are sound. -/
import Derived.Test.YtdkjcadffhnjgaaDoorV3
import Derived.Laws.Cells
namespace Go.V
open Go

section
variable {P : Program} {o : Oper} {a : Act} {σ : VHeap} {β : Beta} {w : World} {env : Env} {K : KP}

theorem s_mov [Glob] {x : Operand} {y : VA} (ho : o.op = .move x ∨ o.op = .assign x) (hx : cA x = some y) (hf : FrameRep w σ β env a) (hs : Sim σ β w) (hk : vMov (va env y) σ K) : OpS P o a σ β w K := by
  refine OpS.value (v := a.eval x) (w' := w) ?_ hk (hf.eval hx) hs (Step.refl _ _ _)
  rcases ho with h | h <;> simp [execOp, h]

/-- A row of ours is read, its cells lie fast from here on. -/
theorem s_snap [Glob] {x : Operand} {y : VA} (ho : o.op = .move x ∨ o.op = .assign x) (hx : cA x = some y) (hf : FrameRep w σ β env a) (hs : Sim σ β w) (hk : vSnap (va env y) σ K) : OpS P o a σ β w K := by
  have h1 := hf.eval hx
  unfold vSnap at hk
  split at hk
  · rename_i id g hy
    split at hk
    · rename_i g' sz es fz hg
      obtain ⟨rfl, hk⟩ := hk
      rw [hy] at h1
      obtain ⟨k1, k2, k3⟩ := frz_rep hs h1
      have e1 : frz σ (.row id g') = frzId σ id := rfl
      have e2 : inl σ (.row id g') = .sl es := by rw [inl, hg]; simp
      rw [e1] at k1 k2 k3
      rw [e2] at k1
      refine OpS.value (v := a.eval x) (w' := w) ?_ hk (.slr es id g' _ k1 (h1.step k3)) k2 k3
      rcases ho with h | h <;> simp [execOp, h]
    · exact hk.elim
  · exact hk.elim

theorem s_pick [Glob] {c x y : Operand} {c' x' y' : VA} (ho : o.op = .pick c x y) (hc : cA c = some c') (hx : cA x = some x') (hy : cA y = some y') (hf : FrameRep w σ β env a) (hs : Sim σ β w)
    (hk : vPick (va env c') (va env x') (va env y') σ K) : OpS P o a σ β w K := by
  have h1 := hf.eval hc
  unfold vPick at hk
  split at hk
  · rename_i e; rw [e] at h1
    generalize he : a.eval c = ec at h1
    cases h1
    exact OpS.value (v := a.eval x) (w' := w) (by simp [execOp, ho, he, asBool]) hk (hf.eval hx) hs (Step.refl _ _ _)
  · rename_i e; rw [e] at h1
    generalize he : a.eval c = ec at h1
    cases h1
    exact OpS.value (v := a.eval y) (w' := w) (by simp [execOp, ho, he, asBool]) hk (hf.eval hy) hs (Step.refl _ _ _)
  · exact hk.elim

/-- A new variable of these cells. -/
theorem s_newVar [Glob] {t : TypeId} {v : Value} {id : Nat} {cs : List PV} (hrun : (execOp a.eval o).run P w = (do pure (Next.value (.pointer (some (← newVar t v)))) : Sem Next).run P w)
    (hs : Sim σ β w) (hl : cs.length = v.cells.size) (hr : ∀ (i : Nat) (c : PV) (u : Value), cs[i]? = some c → v.cells[i]? = some u → Rep w σ β c u)
    (hk : vNew id (.box cs false) σ fun g σ => K (.ptr id g 0) σ) : OpS P o a σ β w K := by
  unfold vNew at hk
  split at hk
  · rename_i g o0 hid
    have h2 := alloc_sim (w' := w.alloc (.cells v.cells t)) (obj := .cells v.cells t) (o := .box cs false) hs hid rfl rfl rfl rfl fun hst =>
      ⟨w.heap.size, v.cells, rfl, ⟨t, (0, 0), heap_alloc_new w _, by simp⟩, hl, fun i c u h1 h2 => (hr i c u h1 h2).step hst⟩
    refine OpS.value (v := .pointer (some ⟨w.heap.size, 0, none⟩)) (w' := w.alloc (.cells v.cells t)) ?_ hk ?_ h2.2 h2.1
    · rw [hrun]; simp [newVar, newRow, newObj, Sem.run]
    · exact .ptr id (g + 1) 0 w.heap.size cs false (set_same hid) (upd_same _ _ _)
  · exact hk.elim

def zeroPV (P : Program) (t : TypeId) : Option (List PV) := ((P.info? t).bind (·.zero)).bind fun z => z.cells.toList.mapM cpv

theorem mapM_some {α γ : Type} {f : α → Option γ} : ∀ {l : List α} {r : List γ}, l.mapM f = some r → r.length = l.length ∧ ∀ (i : Nat) (x : α) (y : γ), l[i]? = some x → r[i]? = some y → f x = some y := by
  intro l
  induction l with
  | nil => intro r h; simp at h; subst h; simp
  | cons x l ih =>
    intro r h
    rw [List.mapM_cons] at h
    cases h1 : f x with
    | none => rw [h1] at h; simp at h
    | some y =>
      cases h2 : l.mapM f with
      | none => rw [h1, h2] at h; simp at h
      | some ys =>
        rw [h1, h2] at h
        simp at h; subst h
        obtain ⟨i1, i2⟩ := ih h2
        refine ⟨by simp [i1], fun i a b ha hb => ?_⟩
        cases i with
        | zero => simp at ha hb; subst ha; subst hb; exact h1
        | succ i => simp at ha hb; exact i2 i a b ha hb

theorem run_zeroValue [Glob] {t : TypeId} {cs : List PV} (h : zeroPV P t = some cs) (w : World) : ∃ z, (∀ w, (zeroValue t).run P w = .ok z w) ∧ cs.length = z.cells.size ∧
    ∀ (σ : VHeap) (β : Beta) (i : Nat) (c : PV) (u : Value), cs[i]? = some c → z.cells[i]? = some u → Rep w σ β c u := by
  unfold zeroPV at h
  cases hi : P.info? t with
  | none => rw [hi] at h; simp at h
  | some i =>
    rw [hi] at h
    cases hz : i.zero with
    | none => simp [hz] at h
    | some z =>
      simp [hz] at h
      obtain ⟨h1, h2⟩ := mapM_some h
      refine ⟨z, fun w => ?_, by simpa using h1, fun σ β i c u h3 h4 => cpv_rep (h2 i u c (by simpa using h4) h3)⟩
      simp [zeroValue, typeInfo, program, Sem.run, hi, hz]

theorem s_alloc [Glob] {t : TypeId} {id : Nat} {cs : List PV} (ho : o.op = .alloc t) (hz : zeroPV P t = some cs) (hs : Sim σ β w) (hk : vAlloc id cs σ K) : OpS P o a σ β w K := by
  obtain ⟨z, h1, h2, h3⟩ := run_zeroValue hz w
  refine s_newVar (t := t) (v := z) ?_ hs h2 (fun i c u => h3 σ β i c u) hk
  simp [execOp, ho, Instr.alloc, h1, newVar, newRow, newObj, Sem.run]

/-- What a load comes to. -/
def isAggT (P : Program) (t : TypeId) : Option Bool := match P.underlying t with | some (.struct _) => some true | some (.array _ _) => some true | some _ => some false | none => none
def loadSz (P : Program) (t : TypeId) : Option (Option Nat) := (isAggT P t).bind fun b => if b then (P.info? t).map fun i => some i.size else some none

theorem run_isAgg {t : TypeId} {b : Bool} (h : isAggT P t = some b) (w : World) : (isAgg t).run P w = .ok b w := by
  unfold isAggT at h
  unfold isAgg
  cases hu : P.underlying t with
  | none => rw [hu] at h; cases h
  | some d => rw [hu] at h; cases d <;> simp_all [underlying, program, Sem.run]

theorem run_loadVar [Glob] {t : TypeId} {sz : Option Nat} (h : loadSz P t = some sz) {ad : Addr} {cs : List PV} {off : Nat} {f : Nat → Value} {w : World}
    (hc : ∀ (j : Nat) (c : PV), cs[off + j]? = some c → w.cell? (ad.add j) = some (f j) ∧ Rep w σ β c (f j)) {c : PV} (hcut : cut cs off sz = some c) :
    ∃ v, (loadVar t ad).run P w = .ok v w ∧ Rep w σ β c v := by
  unfold loadSz at h
  cases hb : isAggT P t with
  | none => rw [hb] at h; simp at h
  | some b =>
    rw [hb] at h
    have hr := run_isAgg hb
    cases b with
    | false =>
      simp at h; subst h
      simp only [cut] at hcut
      obtain ⟨h1, h2⟩ := hc 0 c (by simpa using hcut)
      rw [add_zero] at h1
      exact ⟨f 0, by simp [loadVar, hr, h1], h2⟩
    | true =>
      simp at h
      obtain ⟨i, hi, h⟩ := h; subst h
      simp only [cut] at hcut
      split at hcut
      · rename_i hle
        cases hcut
        have hcell : ∀ j, j < i.size → w.cell? (ad.add j) = some (f j) := fun j hj => (hc j _ (List.getElem?_eq_getElem (by omega))).1
        refine ⟨.agg ((List.range i.size).map f).toArray, ?_, ?_⟩
        · simp only [loadVar, Sem.run_bind, hr, Result.andThen_ok, Sem.run_ite, if_true, sizeOf, typeInfo, program, Sem.run, hi, Sem.run_pure]
          rw [run_loadCells w ad i.size f hcell]; rfl
        · refine .agg _ _ (by simp; omega) fun j c v h1 h2 => ?_
          rw [List.getElem?_take] at h1
          split at h1
          · rename_i hj
            rw [List.getElem?_drop] at h1
            simp [hj] at h2
            subst h2
            exact (hc j c h1).2
          · cases h1
      · cases hcut

theorem s_load [Glob] {t : TypeId} {x : Operand} {y : VA} {sz : Option Nat} (ho : o.op = .load t x) (hsz : loadSz P t = some sz) (hx : cA x = some y) (hf : FrameRep w σ β env a) (hs : Sim σ β w)
    (hk : vLoad sz (va env y) σ K) : OpS P o a σ β w K := by
  have h1 := hf.eval hx
  have go : ∀ {ad : Addr} {cs : List PV} {off : Nat} {f : Nat → Value} {c : PV}, a.eval x = .pointer (some ad) →
      (∀ (j : Nat) (c : PV), cs[off + j]? = some c → w.cell? (ad.add j) = some (f j) ∧ Rep w σ β c (f j)) → cut cs off sz = some c → K c σ → OpS P o a σ β w K := by
    intro ad cs off f c he hc hcut hk
    obtain ⟨v, h2, h3⟩ := run_loadVar hsz hc hcut
    exact OpS.value (v := v) (w' := w) (by simp [execOp, ho, he, Instr.loadAt, Instr.sureAddr, h2]) hk h3 hs (Step.refl _ _ _)
  generalize hc0 : va env y = c0 at *
  generalize he : a.eval x = ex at *
  unfold vLoad at hk
  split at hk
  · rename_i id g off
    split at hk
    · rename_i cs fz hg
      have hg' := vGet_some hg
      split at hk
      · rename_i c hcut
        cases h1 with
        | stalep _ _ _ g' o' p h5 h6 => rw [hg'] at h5; cases h5; omega
        | ptr _ _ _ b cs' fz' h5 hb =>
          obtain ⟨b', arr, e, hcl, hlen, hre⟩ := hs.obj id g _ hg'
          rw [hb] at e; cases e
          refine go (f := fun j => arr.getD (off + j) default) rfl (fun j c h6 => ?_) hcut hk
          have h7 : off + j < arr.size := by rw [← hlen]; exact (List.getElem?_eq_some_iff.1 h6).1
          have h8 : arr[off + j]? = some (arr.getD (off + j) default) := by rw [Array.getElem?_eq_getElem h7, Array.getD_eq_getD_getElem?, Array.getElem?_eq_getElem h7]; rfl
          exact ⟨by rw [add_mk, hcl.cell, h8], hre _ c _ h6 h8⟩
      · exact hk.elim
    · exact hk.elim
  · rename_i id g i off
    split at hk
    · rename_i s es fz hg
      have hg' := vGet_some hg
      split at hk
      · rename_i e hes
        split at hk
        · rename_i c hcut
          cases h1 with
          | stalerp _ _ _ _ g' o' p h5 h6 => rw [hg'] at h5; cases h5; omega
          | rptr _ _ _ _ b sz' es' fz' h5 hb =>
            rw [hg'] at h5; cases h5
            rcases hs.obj id g _ hg' with ⟨e1, _⟩ | ⟨b', arr, e1, hcl, hlen, hel, hre⟩
            · rw [hb] at e1; cases e1
            · rw [hb] at e1; cases e1
              refine go (f := fun j => arr.getD (i * s + off + j) default) rfl (fun j c h6 => ?_) hcut hk
              have h4 : i < es.length := (List.getElem?_eq_some_iff.1 hes).1
              have h5 : off + j < s := by rw [← hel e (List.mem_of_getElem? hes)]; exact (List.getElem?_eq_some_iff.1 h6).1
              have h7 : i * s + (off + j) < arr.size := by
                have : (i + 1) * s ≤ es.length * s := Nat.mul_le_mul_right _ h4
                rw [Nat.add_mul] at this; omega
              have h8 : arr[i * s + (off + j)]? = some (arr.getD (i * s + off + j) default) := by rw [Nat.add_assoc, Array.getElem?_eq_getElem h7, Array.getD_eq_getD_getElem?, Array.getElem?_eq_getElem h7]; rfl
              exact ⟨by rw [add_mk, hcl.cell, Nat.add_assoc, h8, Nat.add_assoc], hre _ e _ c _ hes h6 h8⟩
        · exact hk.elim
      · exact hk.elim
    · exact hk.elim
  · rename_i cs off
    split at hk
    · rename_i c hcut
      cases h1 with
      | iptr _ _ ad a0 f ha hst hr =>
        refine go (f := fun j => f (off + j)) rfl (fun j c h6 => ?_) hcut hk
        subst ha
        have h7 := (List.getElem?_eq_some_iff.1 h6).1
        exact ⟨by rw [add_add]; exact (hst _ h7).1, hr _ c h6⟩
    · exact hk.elim
  · exact hk.elim

theorem s_nilCheck [Glob] {x : Operand} {y : VA} (ho : o.op = .nilCheck x) (hx : cA x = some y) (hf : FrameRep w σ β env a) (hs : Sim σ β w) (hk : vNilCheck (va env y) σ K) : OpS P o a σ β w K := by
  have h1 := hf.eval hx
  have go : ∀ {ad : Addr}, a.eval x = .pointer (some ad) → K (va env y) σ → OpS P o a σ β w K := by
    intro ad he hk
    exact OpS.value (v := a.eval x) (w' := w) (by simp [execOp, ho, he]) hk h1 hs (Step.refl _ _ _)
  generalize hc0 : va env y = c0 at *
  generalize he : a.eval x = ex at *
  unfold vNilCheck at hk
  split at hk
  · obtain ⟨⟨o', hg⟩, hk⟩ := hk
    cases h1 with
    | stalep _ _ _ g' o' p h5 h6 => rw [vGet_some hg] at h5; cases h5; omega
    | ptr _ _ _ b cs' fz' h5 hb => exact go rfl hk
  · obtain ⟨⟨o', hg⟩, hk⟩ := hk
    cases h1 with
    | stalerp _ _ _ _ g' o' p h5 h6 => rw [vGet_some hg] at h5; cases h5; omega
    | rptr _ _ _ _ b sz' es' fz' h5 hb => exact go rfl hk
  · cases h1 with
    | iptr _ _ ad a0 f ha hst hr => exact go rfl hk
  · exact hk.elim

/-- Where a field begins. -/
def fieldOff (P : Program) (s : TypeId) (k : Nat) : Option Nat :=
  match P.underlying s with
  | some (.struct fs) => match fs[k]? with
    | some f => match P.info? f.type with
      | some i => if i.size = 0 then none else some f.offset
      | none => none
    | none => none
  | _ => none

theorem s_field [Glob] {s : TypeId} {x : Operand} {k off : Nat} {y : VA} (ho : o.op = .fieldAddr s x k) (hoff : fieldOff P s k = some off) (hx : cA x = some y) (hf : FrameRep w σ β env a) (hs : Sim σ β w)
    (hk : vField off (va env y) σ K) : OpS P o a σ β w K := by
  have h1 := hf.eval hx
  have run : ∀ {ad : Addr}, a.eval x = .pointer (some ad) → (execOp a.eval o).run P w = .ok (.value (.pointer (some (ad.add off)))) w := by
    intro ad he
    unfold fieldOff at hoff
    split at hoff
    · rename_i fs hu
      split at hoff
      · rename_i f hfk
        split at hoff
        · rename_i i hi
          split at hoff
          · cases hoff
          · rename_i hne
            cases hoff
            simp [execOp, ho, he, Instr.fieldAt, underlying, program, Sem.run, hu, hfk, Instr.sureAddr, fieldPlace, sizeOf, typeInfo, hi, hne]
        · cases hoff
      · cases hoff
    · cases hoff
  generalize hc0 : va env y = c0 at *
  generalize he : a.eval x = ex at *
  unfold vField at hk
  split at hk
  · rename_i id g o0
    obtain ⟨⟨o', hg⟩, hk⟩ := hk
    cases h1 with
    | stalep _ _ _ g' o' p h5 h6 => rw [vGet_some hg] at h5; cases h5; omega
    | ptr _ _ _ b cs' fz' h5 hb => exact OpS.value (run rfl) hk (by rw [add_mk]; exact .ptr id g _ b cs' fz' h5 hb) hs (Step.refl _ _ _)
  · rename_i id g i o0
    obtain ⟨⟨o', hg⟩, hk⟩ := hk
    cases h1 with
    | stalerp _ _ _ _ g' o' p h5 h6 => rw [vGet_some hg] at h5; cases h5; omega
    | rptr _ _ _ _ b sz' es' fz' h5 hb => exact OpS.value (run rfl) hk (by rw [add_mk, Nat.add_assoc]; exact .rptr id g i _ b sz' es' fz' h5 hb) hs (Step.refl _ _ _)
  · rename_i cs o0
    cases h1 with
    | iptr _ _ ad a0 f ha hst hr => exact OpS.value (run rfl) hk (.iptr cs _ _ a0 f (by rw [ha, add_add]) hst hr) hs (Step.refl _ _ _)
  · exact hk.elim

theorem s_extract [Glob] {x : Operand} {k : Nat} {y : VA} (ho : o.op = .extract x k) (hx : cA x = some y) (hf : FrameRep w σ β env a) (hs : Sim σ β w)
    (hk : vExtract k (va env y) σ K) : OpS P o a σ β w K := by
  have h1 := hf.eval hx
  generalize hc0 : va env y = c0 at *
  generalize he : a.eval x = ex at *
  unfold vExtract at hk
  split at hk
  · rename_i vs
    split at hk
    · rename_i c hc
      cases h1 with
      | tup _ us hl hr =>
        have h2 : k < us.size := by rw [← hl]; exact (List.getElem?_eq_some_iff.1 hc).1
        have h3 : us[k]? = some us[k] := Array.getElem?_eq_getElem h2
        exact OpS.value (v := us[k]) (w' := w) (by simp [execOp, ho, he, Instr.extract, h2]) hk (hr k c _ hc h3) hs (Step.refl _ _ _)
    · exact hk.elim
  · exact hk.elim

end
end Go.V
