/- Boxes, literals, rows, texts and bytes. -/
import Derived.Test.YtdkjcadffhnjgaaDoorV8
namespace Go.V
open Go

def vBox (id : Nat) (x : PV) (σ : VHeap) (K : KP) : Prop := (pcells x).all scalar = true ∧ vNew id (.box (pcells x) false) σ fun g σ => K (.ptr id g 0) σ
/-- Parts laid into a row of cells. -/
def vFill (cs : List PV) : List (Nat × Nat × PV) → Option (List PV)
  | [] => some cs
  | (off, sz, v) :: r => if (pcells v).length = sz ∧ (pcells v).all scalar = true ∧ off + sz ≤ cs.length then vFill (splice cs off (pcells v)) r else none
def vBuild (zero : List PV) (parts : List (Nat × Nat × PV)) (σ : VHeap) (K : KP) : Prop :=
  match vFill zero parts with
  | some cs => K (.agg cs) σ
  | none => False
def vFillRow (sz : Nat) (es : List (List PV)) : List (Nat × PV) → Option (List (List PV))
  | [] => some es
  | (i, v) :: r => if (pcells v).length = sz ∧ (pcells v).all scalar = true ∧ i < es.length then vFillRow sz (es.set i (pcells v)) r else none
def vBuildSlice (id sz len : Nat) (zero : List PV) (parts : List (Nat × PV)) (σ : VHeap) (K : KP) : Prop :=
  match vFillRow sz (List.replicate len zero) parts with
  | some es => vNew id (.row sz es false) σ fun g σ => K (.row id g) σ
  | none => False
def vNewRow (id sz : Nat) (σ : VHeap) (K : KP) : Prop := vNew id (.row sz [] false) σ fun g σ => K (.row id g) σ

section
variable {P : Program} {o : Oper} {a : Act} {σ : VHeap} {β : Beta} {w : World} {env : Env} {K : KP}

theorem s_box [Glob] {t : TypeId} {x : Operand} {x' : VA} {id : Nat} (ho : o.op = .box t x) (hx : cA x = some x') (hf : FrameRep w σ β env a) (hs : Sim σ β w) (hk : vBox id (va env x') σ K) : OpS P o a σ β w K := by
  have h1 := hf.eval hx
  obtain ⟨hall, hk⟩ := hk
  obtain ⟨e1, e2, e3⟩ := pcells_rep h1 hall
  refine s_newVar (t := t) (v := a.eval x) ?_ hs e1 e3 hk
  simp [execOp, ho, Instr.box, newVar, newRow, newObj, Sem.run]

/-- A row that is not there yet. -/
theorem nil_sim {id g sz : Nat} {o0 : VObj} {fz : Bool} (h : Sim σ β w) (hid : σ[id]? = some (g, o0)) :
    Step σ β w (σ.set id (g + 1, .row sz [] fz)) (upd β id none) w ∧ Sim (σ.set id (g + 1, .row sz [] fz)) (upd β id none) w := by
  have hs : Step σ β w (σ.set id (g + 1, .row sz [] fz)) (upd β id none) w := by
    refine ⟨rfl, rfl, rfl, Nat.le_refl _, fun _ _ _ => rfl, fun _ _ h _ => h, ?_, ?_, fun _ arr _ _ h => ⟨arr, h, rfl⟩, ?_⟩
    · rintro b hb ⟨i, gi, oi, h1, h2, h3⟩
      rcases set_get h1 with ⟨e, h4⟩ | ⟨e, h4⟩
      · subst e; rw [upd_same] at h2; cases h2
      · rw [upd_ne _ _ e] at h2; exact ⟨i, gi, oi, h4, h2, h3⟩
    · rintro b j hb ⟨i, gi, oi, h1, h2, h3⟩
      rcases set_get h1 with ⟨e, h4⟩ | ⟨e, h4⟩
      · subst e; rw [upd_same] at h2; cases h2
      · rw [upd_ne _ _ e] at h2; exact ⟨i, gi, oi, h4, h2, h3⟩
    · intro i gi oi h1
      by_cases e : i = id
      · subst e
        rw [hid] at h1; cases h1
        exact ⟨g + 1, _, set_same hid, by omega, fun e => by omega⟩
      · exact ⟨gi, oi, by rw [List.getElem?_set_ne (Ne.symm e)]; exact h1, Nat.le_refl _, fun _ => ⟨oi.alike_refl, upd_ne _ _ e⟩⟩
  refine ⟨hs, ?_, ?_⟩
  · intro i gi oi h1
    rcases set_get h1 with ⟨e, h4⟩ | ⟨e, h4⟩
    · subst e; cases h4; rw [upd_same]; exact .inl ⟨rfl, rfl⟩
    · rw [upd_ne _ _ e]
      exact (h.obj i gi oi h4).step hs fun b hb => rfl
  · intro i j b gi gj oi oj h1 h2 l1 l2 b1 b2
    rcases set_get h1 with ⟨e1, h3⟩ | ⟨e1, h3⟩ <;> rcases set_get h2 with ⟨e2, h4⟩ | ⟨e2, h4⟩
    · rw [e1, e2]
    · subst e1; rw [upd_same] at b1; cases b1
    · subst e2; rw [upd_same] at b2; cases b2
    · rw [upd_ne _ _ e1] at b1; rw [upd_ne _ _ e2] at b2
      exact h.inj i j b gi gj oi oj h3 h4 l1 l2 b1 b2

theorem s_newRow [Glob] {x : Operand} {id sz : Nat} (ho : o.op = .assign x) (hx : x = .const (.slice none 0 0)) (hs : Sim σ β w) (hk : vNewRow id sz σ K) : OpS P o a σ β w K := by
  unfold vNewRow vNew at hk
  split at hk
  · rename_i g o0 hid
    have h := nil_sim (sz := sz) (fz := false) hs hid
    refine OpS.value (v := .slice none 0 0) (w' := w) (by simp [execOp, ho, hx, Act.eval]) hk (.rownil id (g + 1) sz false none (set_same hid) (upd_same _ _ _)) h.2 h.1
  · exact hk.elim

theorem fold_set (vs : List Value) : ∀ (arr : Array Value) (off i : Nat), (vs.zipIdx i).foldl (fun cs (x : Value × Nat) => cs.setIfInBounds (off + x.2) x.1) arr = wset arr (off + i) vs := by
  induction vs with
  | nil => intro arr off i; rfl
  | cons v vs ih => intro arr off i; rw [List.zipIdx_cons, List.foldl_cons, ih, wset]; rfl

def CellsRep (w : World) (σ : VHeap) (β : Beta) (cs : List PV) (vs : Array Value) : Prop := cs.length = vs.size ∧ ∀ (i : Nat) (c : PV) (v : Value), cs[i]? = some c → vs[i]? = some v → Rep w σ β c v

theorem CellsRep.splice [Glob] {cs vs : List PV} {arr : Array Value} {us : List Value} {off : Nat} (h : CellsRep w σ β cs arr) (hl : vs.length = us.length) (hle : off + vs.length ≤ cs.length)
    (hr : ∀ (i : Nat) (c : PV) (v : Value), vs[i]? = some c → us[i]? = some v → Rep w σ β c v) : CellsRep w σ β (splice cs off vs) (wset arr off us) := by
  obtain ⟨h1, h2⟩ := h
  refine ⟨by rw [splice_length _ _ _ hle, wset_size, h1], fun i c v h3 h4 => ?_⟩
  rw [splice_get _ _ _ _ hle] at h3
  rw [wset_get _ _ _ _ (by omega)] at h4
  split at h3
  · rw [if_pos (by omega)] at h4; exact hr _ c v h3 h4
  · rw [if_neg (by omega)] at h4; exact h2 i c v h3 h4

theorem fill_rep [Glob] {place : Nat → Option (Nat × Nat)} : ∀ (parts : List (Nat × Operand)) (parts' : List (Nat × Nat × VA)) (cs : List PV) (arr : Array Value) (cs' : List PV), parts.length = parts'.length →
    (∀ (i : Nat) (p : Nat × Operand) (q : Nat × Nat × VA), parts[i]? = some p → parts'[i]? = some q → place p.1 = some (q.1, q.2.1) ∧ cA p.2 = some q.2.2) → FrameRep w σ β env a → CellsRep w σ β cs arr →
    vFill cs (parts'.map fun q => (q.1, q.2.1, va env q.2.2)) = some cs' → ∃ arr', Instr.fill place arr (parts.map fun p => (p.1, a.eval p.2)) = some arr' ∧ CellsRep w σ β cs' arr' := by
  intro parts
  induction parts with
  | nil =>
    intro parts' cs arr cs' hl _ _ hc h
    have : parts' = [] := List.length_eq_zero_iff.1 hl.symm
    subst this
    simp [vFill] at h; subst h
    exact ⟨arr, rfl, hc⟩
  | cons p parts ih =>
    intro parts' cs arr cs' hl hp hf hc h
    cases parts' with
    | nil => simp at hl
    | cons q parts' =>
      obtain ⟨h1, h2⟩ := hp 0 p q rfl rfl
      have hr := hf.eval h2
      simp only [List.map_cons, vFill] at h
      split at h
      · rename_i hcond
        obtain ⟨c1, c2, c3⟩ := hcond
        obtain ⟨e1, e2, e3⟩ := pcells_rep hr c2
        obtain ⟨arr', e4, e5⟩ := ih parts' (splice cs q.1 (pcells (va env q.2.2))) (wset arr q.1 (a.eval p.2).cells.toList) cs' (by simpa using hl) (fun i p' q' h3 h4 => hp (i + 1) p' q' (by simpa using h3) (by simpa using h4)) hf
          (hc.splice (by simpa using e1) (by omega) (fun i c v h3 h4 => e3 i c v h3 (by simpa using h4))) h
        refine ⟨arr', ?_, e5⟩
        rw [← e4]
        simp only [List.map_cons, Instr.fill, h1]
        rw [if_neg]
        · congr 1
          rw [← Array.foldl_toList, Array.toList_zipIdx]
          exact fold_set _ _ _ _
        · have := hc.1
          simp; omega
      · cases h

theorem run_mapM {α γ : Type} {f : α → Sem γ} {g : α → γ} (l : List α) (h : ∀ x, x ∈ l → ∀ w, (f x).run P w = .ok (g x) w) (w : World) : (l.mapM f).run P w = .ok (l.map g) w := by
  induction l with
  | nil => simp
  | cons x l ih => rw [List.mapM_cons]; simp [h x (by simp), ih fun y hy => h y (by simp [hy])]

theorem run_amapM [Glob] {α γ : Type} {f : α → Sem γ} {g : α → γ} (l : Array α) (h : ∀ x, x ∈ l → ∀ w, (f x).run P w = .ok (g x) w) (w : World) : (l.mapM f).run P w = .ok (l.map g) w := by
  rw [Array.mapM_eq_mapM_toList]
  simp only [Sem.run_map, run_mapM l.toList (g := g) (fun x hx => h x (by simpa using hx)), Result.andThen_ok]
  congr 1
  apply Array.ext'
  simp

/-- Where the parts of a struct or an array lie. -/
def placeOf (P : Program) (t : TypeId) : Option (Nat → Option (Nat × Nat)) :=
  match P.underlying t with
  | some (.struct fs) => if fs.all (fun f => (sizeT P f.type).isSome) then some fun i => (fs[i]?).map fun f => (f.offset, (sizeT P f.type).getD 0) else none
  | some (.array _ e) => match sizeT P e with | some s => some fun i => some (i * s, s) | none => none
  | _ => none

theorem s_build [Glob] {t : TypeId} {parts : Array (Nat × Operand)} {parts' : List (Nat × Nat × VA)} {zero : List PV} {place : Nat → Option (Nat × Nat)} (ho : o.op = .build t parts) (hz : zeroPV P t = some zero)
    (hpl : placeOf P t = some place) (hl : parts.toList.length = parts'.length)
    (hp : ∀ (i : Nat) (p : Nat × Operand) (q : Nat × Nat × VA), parts.toList[i]? = some p → parts'[i]? = some q → place p.1 = some (q.1, q.2.1) ∧ cA p.2 = some q.2.2)
    (hf : FrameRep w σ β env a) (hs : Sim σ β w) (hk : vBuild zero (parts'.map fun q => (q.1, q.2.1, va env q.2.2)) σ K) : OpS P o a σ β w K := by
  unfold vBuild at hk
  split at hk
  · rename_i cs' hfill
    obtain ⟨z, z1, z2, z3⟩ := run_zeroValue hz w
    obtain ⟨arr', e1, e2⟩ := fill_rep parts.toList parts' zero z.cells cs' hl hp hf ⟨z2, z3 σ β⟩ hfill
    refine OpS.value (v := .agg arr') (w' := w) ?_ hk (.agg _ _ e2.1 e2.2) hs (Step.refl _ _ _)
    have e3 : (parts.map fun p => (p.1, a.eval p.2)).toList = parts.toList.map fun p => (p.1, a.eval p.2) := by simp
    unfold placeOf at hpl
    split at hpl
    · rename_i fs hu
      split at hpl
      · rename_i hall
        cases hpl
        have hm : ∀ w, (fs.mapM fun f => (do pure (f.offset, ← sizeOf f.type) : Sem (Nat × Nat))).run P w = .ok (fs.map fun f => (f.offset, ((sizeT P f.type).getD 0))) w := by
          refine run_amapM fs fun f hf w => ?_
          have h1 : (sizeT P f.type).isSome = true := by
            rw [Array.all_eq_true'] at hall
            exact hall f hf
          obtain ⟨s, hsz⟩ := Option.isSome_iff_exists.1 h1
          simp [run_sizeOf hsz, hsz]
        have e4 : (fun (i : Nat) => (fs[i]?).map fun (f : Field) => (f.offset, (sizeT P f.type).getD 0)) = fun (i : Nat) => (fs.map fun (f : Field) => (f.offset, ((sizeT P f.type).getD 0)))[i]? := by funext i; simp
        rw [e4] at e1
        have e5 : (Array.map (fun x => match x with | (i, x) => (i, a.eval x)) parts).toList = parts.toList.map fun p => (p.1, a.eval p.2) := by simp
        simp only [execOp, ho, Instr.build, Sem.run_bind, z1, Result.andThen_ok, run_underlying' hu, hm, e5, e1, Sem.run_pure]
      · cases hpl
    · rename_i n e hu
      split at hpl
      · rename_i s hse
        cases hpl
        have e5 : (Array.map (fun x => match x with | (i, x) => (i, a.eval x)) parts).toList = parts.toList.map fun p => (p.1, a.eval p.2) := by simp
        simp only [execOp, ho, Instr.build, Sem.run_bind, z1, Result.andThen_ok, run_underlying' hu, run_sizeOf hse, e5, e1, Sem.run_pure]
      · cases hpl
    · cases hpl
  · exact hk.elim

/-- A row in a block that is new. -/
theorem s_newBlock [Glob] {id sz n c : Nat} {es : List (List PV)} {arr : Array Value} {w' : World} {ty : TypeId} {fr : Nat × Nat}
    (hrun : (execOp a.eval o).run P w = .ok (.value (.slice (some ⟨w.heap.size, 0, none⟩) n c)) w') (hn : es.length = n) (hnc : n ≤ c) (hsz : c * sz ≤ arr.size)
    (hos : w'.os = w.os) (ht : w'.tape = w.tape) (hout : w'.output = w.output) (hheap : w'.heap = w.heap.push (.cells arr ty fr)) (hfr : ∀ i, i < arr.size → ¬ (fr.1 ≤ i ∧ i < fr.2))
    (hel : ∀ e, e ∈ es → e.length = sz) (hr : ∀ (i : Nat) (e : List PV) (j : Nat) (c : PV) (v : Value), es[i]? = some e → e[j]? = some c → arr[i * sz + j]? = some v → Rep w σ β c v)
    (hs : Sim σ β w) (hk : vNew id (.row sz es false) σ fun g σ => K (.row id g) σ) : OpS P o a σ β w K := by
  unfold vNew at hk
  split at hk
  · rename_i g o0 hid
    have hc : es.length * sz ≤ arr.size := Nat.le_trans (Nat.mul_le_mul_right _ (by omega)) hsz
    have hblk : w'.heap[w.heap.size]? = some (.cells arr ty fr) := by rw [hheap]; simp
    have h2 := alloc_sim (obj := .cells arr ty fr) (o := .row sz es false) hs hid hos ht hout hheap fun hst =>
      .inr ⟨w.heap.size, arr, rfl, ⟨ty, fr, hblk, hfr⟩, hc, hel, fun i e j c v h1 h2 h3 => (hr i e j c v h1 h2 h3).step hst⟩
    refine OpS.value hrun hk ?_ h2.2 h2.1
    rw [← hn]
    exact .row id (g + 1) w.heap.size sz c es false arr ty fr (set_same hid) (upd_same _ _ _) hblk (by omega) hsz
  · exact hk.elim

end
end Go.V
