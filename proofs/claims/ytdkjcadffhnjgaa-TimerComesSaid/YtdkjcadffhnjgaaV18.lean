/- Heaps in a walk. -/
import Derived.Test.YtdkjcadffhnjgaaV17
namespace Go.V
open Go

theorem vdead_len (m : Nat) : (vdead m).length = m := by simp [vdead]
theorem hget_ne {σ : VHeap} {i j g : Nat} {x : Nat × VObj} {o : Option VObj} (h : i ≠ j) (k : vGet σ j g = o) : vGet (σ.set i x) j g = o := by
  unfold vGet at *; rw [List.getElem?_set_ne h]; exact k
theorem hget_eq {σ : VHeap} {i g : Nat} {o : VObj} (h : i < σ.length) : vGet (σ.set i (g, o)) i g = some o := by
  unfold vGet; rw [List.getElem?_set_self h]; simp
theorem hraw_ne {σ : VHeap} {i j : Nat} {x : Nat × VObj} {y : Option (Nat × VObj)} (h : i ≠ j) (k : σ[j]? = y) : (σ.set i x)[j]? = y := by rw [List.getElem?_set_ne h]; exact k
theorem hraw_eq {σ : VHeap} {i : Nat} {x : Nat × VObj} (h : i < σ.length) : (σ.set i x)[i]? = some x := List.getElem?_set_self h
theorem vGet_lt {σ : VHeap} {id g : Nat} {o : VObj} (h : vGet σ id g = some o) : id < σ.length := (List.getElem?_eq_some_iff.1 (vGet_some h)).1
theorem vGet_of {σ : VHeap} {id g : Nat} {o : VObj} (h : σ[id]? = some (g, o)) : vGet σ id g = some o := by unfold vGet; rw [h]; simp
theorem hraw_dead {σ : VHeap} {m s : Nat} (h : s < m) : (σ ++ vdead m)[σ.length + s]? = some (0, .dead) := by
  rw [List.getElem?_append_right (by omega)]; simp [vdead, h]

/-- All is kept but for these. -/
def Keep (l : List Nat) (σ σ' : VHeap) : Prop := σ.length ≤ σ'.length ∧ ∀ i, i < σ.length → i ∉ l → σ'[i]? = σ[i]?
theorem Keep.refl (l : List Nat) (σ : VHeap) : Keep l σ σ := ⟨Nat.le_refl _, fun _ _ _ => rfl⟩
theorem Keep.trans {l : List Nat} {a b c : VHeap} (h : Keep l a b) (k : Keep l b c) : Keep l a c :=
  ⟨Nat.le_trans h.1 k.1, fun i hi hn => by rw [k.2 i (by have := h.1; omega) hn, h.2 i hi hn]⟩
theorem Keep.mono {l l' : List Nat} {a b : VHeap} (h : Keep l a b) (k : ∀ i, i ∈ l → i ∈ l' ∨ a.length ≤ i) : Keep l' a b :=
  ⟨h.1, fun i hi hn => h.2 i hi fun hm => by rcases k i hm with k | k; exact hn k; omega⟩
theorem Keep.set {l : List Nat} {a b : VHeap} {i : Nat} {x : Nat × VObj} (h : Keep l a b) (k : i ∈ l ∨ a.length ≤ i) : Keep l a (b.set i x) :=
  ⟨by simpa using h.1, fun j hj hn => by rw [List.getElem?_set_ne (by rintro rfl; rcases k with k | k; exact hn k; omega)]; exact h.2 j hj hn⟩
theorem Keep.app {l : List Nat} {a b : VHeap} (τ : VHeap) (h : Keep l a b) : Keep l a (b ++ τ) :=
  ⟨by simp; have := h.1; omega, fun j hj hn => by rw [List.getElem?_append_left (by have := h.1; omega)]; exact h.2 j hj hn⟩
theorem Keep.get {l : List Nat} {a b : VHeap} (h : Keep l a b) {id g : Nat} {o : VObj} (k : vGet a id g = some o) (hn : id ∉ l) : vGet b id g = some o := by
  unfold vGet; rw [h.2 id (vGet_lt k) hn]; exact k
theorem Keep.raw {l : List Nat} {a b : VHeap} (h : Keep l a b) {id : Nat} {x : Nat × VObj} (k : a[id]? = some x) (hn : id ∉ l) : b[id]? = some x := by
  rw [h.2 id (List.getElem?_eq_some_iff.1 k).1 hn]; exact k
theorem Keep.pre {l : List Nat} {a b : VHeap} {τ : VHeap} (h : Keep l (a ++ τ) b) : Keep l a b :=
  ⟨by have := h.1; simp at this; omega, fun j hj hn => by rw [h.2 j (by simp; omega) hn, List.getElem?_append_left hj]⟩

/-- Plain: no row in it. -/
def pl : PV → Bool
  | .agg cs => cs.all fun c => match c with | .agg _ => false | .tup _ => false | .nils => false | .row _ _ => false | .bview _ _ _ _ => false | _ => true
  | .tup cs => cs.all fun c => match c with | .agg _ => false | .tup _ => false | .nils => false | .row _ _ => false | .bview _ _ _ _ => false | _ => true
  | .nils => false
  | .row _ _ => false
  | .bview _ _ _ _ => false
  | _ => true
theorem pl_list {σ : VHeap} {cs : List PV} (h : (cs.all fun c => match c with | .agg _ => false | .tup _ => false | .nils => false | .row _ _ => false | .bview _ _ _ _ => false | _ => true) = true) : inlL σ cs = cs ∧ refsL cs = [] := by
  induction cs with
  | nil => exact ⟨rfl, rfl⟩
  | cons c cs ih =>
    simp only [List.all_cons, Bool.and_eq_true] at h
    obtain ⟨i1, i2⟩ := ih h.2
    have h1 := h.1
    constructor
    · rw [inlL, i1]; cases c <;> first | rfl | cases h1
    · rw [refsL, i2]; cases c <;> first | rfl | cases h1
theorem pl_inl {σ : VHeap} {c : PV} (h : pl c = true) : inl σ c = c := by
  cases c <;> first | rfl | (cases h; done) | (rw [inl]; rw [(pl_list (σ := σ) (by simpa [pl] using h)).1])
theorem pl_frz {σ : VHeap} {c : PV} (h : pl c = true) : frz σ c = σ := by
  unfold frz
  cases c <;> first | rfl | (cases h; done) | (rw [refs]; rw [(pl_list (σ := σ) (by simpa [pl] using h)).2]; rfl)
theorem pl_args {σ : VHeap} {args : List PV} (h : args.all pl = true) : inlArgs σ args = args ∧ frzArgs σ args = σ := by
  constructor
  · unfold inlArgs
    induction args with
    | nil => rfl
    | cons c cs ih => simp only [List.all_cons, Bool.and_eq_true] at h; rw [List.map_cons, pl_inl h.1, ih h.2]
  · unfold frzArgs
    have : refsL args = [] := by
      induction args with
      | nil => rfl
      | cons c cs ih =>
        simp only [List.all_cons, Bool.and_eq_true] at h
        rw [refsL, ih h.2]
        have := h.1
        cases c <;> first | rfl | (simp [pl] at this; done) | (rw [refs]; rw [(pl_list (σ := σ) (by simpa [pl] using this)).2]; rfl)
    rw [this]; rfl

section
variable {P : Program} {n : Nat} {K : Env → VHeap → Prop} {r : List VO} {env : Env} {σ : VHeap} {d : Option Nat}
theorem st_updPF {b : Bool} {x y v : VA} {id g i bn clock : Nat} {es : Ents} {v0 k1 v1 : PV} (h : va env x = .map id g) (hk1 : va env y = k1) (hv1 : va env v = v1) (hp : pl v1 = true) (hg : vGet σ id g = some (.map es clock)) (hk : keyV b k1 = true) (hl : look k1 es = some (some (i, v0, bn)))
    (k : vrunOps P n K r (eput env d .undef) (σ.set id (g, .map (es.set i (k1, v1, bn)) clock))) : vrunOps P n K (⟨d, .mapUpdate b x y v, none⟩ :: r) env σ := by
  subst hk1 hv1
  exact st_updF h (by rw [pl_frz hp]; exact hg) hk hl (by rw [pl_frz hp, pl_inl hp]; exact k)
theorem st_updPN {b : Bool} {x y v : VA} {id g clock : Nat} {es : Ents} {k1 v1 : PV} (h : va env x = .map id g) (hk1 : va env y = k1) (hv1 : va env v = v1) (hp : pl v1 = true) (hg : vGet σ id g = some (.map es clock)) (hk : keyV b k1 = true) (hl : look k1 es = some none)
    (k : vrunOps P n K r (eput env d .undef) (σ.set id (g, .map (es ++ [(k1, v1, clock)]) (clock + 1)))) : vrunOps P n K (⟨d, .mapUpdate b x y v, none⟩ :: r) env σ := by
  subst hk1 hv1
  exact st_updN h (by rw [pl_frz hp]; exact hg) hk hl (by rw [pl_frz hp, pl_inl hp]; exact k)
theorem st_callP {f : FuncId} {args : List VA} {vs : List PV} (h : args.map (va env) = vs) (hp : vs.all pl = true) (k : T P f vs σ (fun v σ' => vrunOps P n K r (eput env d v) σ')) : vrunOps P n K (⟨d, .call false f args, none⟩ :: r) env σ := by
  subst h
  refine st_callV ?_
  rw [(pl_args hp).1, (pl_args hp).2]; exact k
theorem se_retP {vf : VFun} {Post : KP} {v : PV} (hr : vf.raw = false) (h : rvAll env σ vf.results = some v) (hp : pl v = true) (k : Post v σ) : vend vf Post .ret env σ :=
  se_ret hr h (by rw [pl_inl hp, pl_frz hp]; exact k)
theorem se_normP {vf : VFun} {Post : KP} {v : PV} (hr : vf.raw = false) (h : rvAll env σ vf.results = some v) (hp : pl v = true) (k : Post v σ) : vend vf Post .normal env σ :=
  se_norm hr h (by rw [pl_inl hp, pl_frz hp]; exact k)
theorem st_movG {x : VA} {v : PV} (h : va env x = v) (k : vrunOps P n K r (eput env d v) σ) : vrunOps P n K (⟨d, .mov x, none⟩ :: r) env σ := st_mov (by rw [h]; exact k)
theorem st_callR1 {f : FuncId} {x : VA} {v : PV} (h : va env x = v) (k : T P f [v] σ (fun v σ' => vrunOps P n K r (eput env d v) σ')) : vrunOps P n K (⟨d, .call true f [x], none⟩ :: r) env σ := by
  subst h; exact st_callR k
theorem row_inl {id g sz : Nat} {es : List (List PV)} {fz : Bool} (hg : vGet σ id g = some (.row sz es fz)) : inl σ (.row id g) = .sl es ∧ frz σ (.row id g) = σ.set id (g, .row sz es true) := by
  have h := vGet_some hg
  constructor
  · simp only [inl, h, if_true]
  · simp only [frz, refs, frzIds, List.foldl_cons, List.foldl_nil, frzId, h, VObj.freeze]
theorem se_retRow {vf : VFun} {Post : KP} {t id g sz : Nat} {es : List (List PV)} {fz : Bool} (hr : vf.raw = false) (h : vf.results = [.tmp t]) (hv : env t = .row id g) (hg : vGet σ id g = some (.row sz es fz)) (k : Post (.sl es) (σ.set id (g, .row sz es true))) : vend vf Post .ret env σ :=
  se_ret (v := .row id g) hr (by rw [h]; simp [rvAll, rvVal, va, hv]) (by rw [(row_inl hg).1, (row_inl hg).2]; exact k)
theorem se_normRow {vf : VFun} {Post : KP} {t id g sz : Nat} {es : List (List PV)} {fz : Bool} (hr : vf.raw = false) (h : vf.results = [.tmp t]) (hv : env t = .row id g) (hg : vGet σ id g = some (.row sz es fz)) (k : Post (.sl es) (σ.set id (g, .row sz es true))) : vend vf Post .normal env σ :=
  se_norm (v := .row id g) hr (by rw [h]; simp [rvAll, rvVal, va, hv]) (by rw [(row_inl hg).1, (row_inl hg).2]; exact k)
theorem st_append1 {s sz by' : Nat} {x y : VA} {id g id2 g2 : Nat} {es new : List (List PV)} {fz fz2 : Bool} (h : va env x = .row id g) (hy : va env y = .row id2 g2) (hg2 : vGet σ id2 g2 = some (.row sz new fz2)) (hok : RowOk sz new) (hg : vGet σ id g = some (.row sz es fz)) (hb : (es.length + new.length) * by' ≤ 140737488355328)
    (k : vrunOps P n K r (eput env d (.row id (g + 1))) (σ.set id (g + 1, .row sz (es ++ new) fz))) : vrunOps P n K (⟨d, .append s sz by' x y, none⟩ :: r) env σ :=
  st_append h (by rw [hy]; simp only [rdA, rd, hg2]) hok hg hb k
theorem st_lenR {x : VA} {id g sz : Nat} {es : List (List PV)} {fz : Bool} (h : va env x = .row id g) (hg : vGet σ id g = some (.row sz es fz)) (k : vrunOps P n K r (eput env d (.int .i64 es.length)) σ) : vrunOps P n K (⟨d, .len x, none⟩ :: r) env σ :=
  st_len (by rw [h]; simp only [rd, hg]) k
theorem st_lenS {x : VA} {es : List (List PV)} (h : va env x = .sl es) (k : vrunOps P n K r (eput env d (.int .i64 es.length)) σ) : vrunOps P n K (⟨d, .len x, none⟩ :: r) env σ :=
  st_len (by rw [h]; rfl) k
theorem st_rangeMap {s g0 : Nat} {x : VA} {m mg clock : Nat} {es : Ents} {o : VObj} (h : va env x = .map m mg) (hg : vGet σ m mg = some (.map es clock)) (ho : σ[n + s]? = some (g0, o))
    (k : vrunOps P n K r (eput env d (.iter (n + s) (g0 + 1))) (σ.set (n + s) (g0 + 1, .miter m mg clock clock []))) : vrunOps P n K (⟨d, .rangeMap s x, none⟩ :: r) env σ := by
  simp only [vrunOps, vop]; rw [h]; simp only [vRangeMap, withMap, hg, vNew, ho]; exact k
theorem st_nextMap {x : VA} {id g m mg since last clock : Nat} {seen : List Nat} {es : Ents} (h : va env x = .iter id g) (hi : vGet σ id g = some (.miter m mg since last seen)) (hm : vGet σ m mg = some (.map es clock))
    (hn : ¬ (seen ≠ [] ∧ es ≠ [] ∧ ∀ e, e ∈ es → last ≤ e.2.2))
    (hs : ∀ k v b, (k, v, b) ∈ es → seen.contains b = false → vrunOps P n K r (eput env d (.tup [.bool true, k, v])) (σ.set id (g, .miter m mg since clock (seen ++ [b]))))
    (he : (∀ e, e ∈ es → seen.contains e.2.2 = false → since ≤ e.2.2) → vrunOps P n K r (eput env d (.tup [.bool false])) σ) : vrunOps P n K (⟨d, .nextMap x, none⟩ :: r) env σ := by
  simp only [vrunOps, vop]; rw [h]; simp only [vNextMap, hi, hm]
  refine ⟨hn, fun c hc => ?_⟩
  unfold nexts at hc
  rw [List.mem_append] at hc
  rcases hc with hc | hc
  · split at hc
    · rename_i hall
      simp at hc; subst hc
      refine he fun e h1 h2 => ?_
      simp only [List.all_eq_true, List.mem_filter, decide_eq_true_eq] at hall
      exact hall e ⟨h1, by rw [h2]; rfl⟩
    · simp at hc
  · rw [List.mem_map] at hc
    obtain ⟨⟨k, v, b⟩, h1, rfl⟩ := hc
    rw [List.mem_filter] at h1
    exact hs k v b h1.1 (by simpa using h1.2)
theorem st_entry {x : VA} {id g m mg since clock b b' : Nat} {seen : List Nat} {es : Ents} {k v : PV} (h : va env x = .iter id g) (hi : vGet σ id g = some (.miter m mg since clock seen)) (hm : vGet σ m mg = some (.map es clock)) (hl : seen.getLast? = some b)
    (hf : es.find? (fun e => e.2.2 == b) = some (k, v, b')) (kk : vrunOps P n K r (eput env d (.tup [k, v])) σ) : vrunOps P n K (⟨d, .entry x, none⟩ :: r) env σ := by
  simp only [vrunOps, vop]; rw [h]; simp only [vEntry, hi, hm, hl, hf]; exact ⟨trivial, kk⟩
end
end Go.V
