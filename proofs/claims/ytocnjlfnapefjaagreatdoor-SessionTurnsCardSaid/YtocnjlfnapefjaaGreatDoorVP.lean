/- Heaps that a call changes in part; steps over maps. -/
import Derived.Test.YtocnjlfnapefjaaGreatDoorEC
namespace Go.V
open Go
theorem hraw_ne {σ : VHeap} {i j : Nat} {x : Nat × VObj} {y : Option (Nat × VObj)} (h : i ≠ j) (k : σ[j]? = y) : (σ.set i x)[j]? = y := by rw [List.getElem?_set_ne h]; exact k
theorem hraw_eq {σ : VHeap} {i : Nat} {x : Nat × VObj} (h : i < σ.length) : (σ.set i x)[i]? = some x := List.getElem?_set_self h
/-- All is kept but for these. -/
def Keep (l : List Nat) (σ σ' : VHeap) : Prop := σ.length ≤ σ'.length ∧ ∀ i, i < σ.length → i ∉ l → σ'[i]? = σ[i]?
theorem Keep.refl (l : List Nat) (σ : VHeap) : Keep l σ σ := ⟨Nat.le_refl _, fun _ _ _ => rfl⟩
theorem Keep.trans {l : List Nat} {a b c : VHeap} (h : Keep l a b) (k : Keep l b c) : Keep l a c :=
  ⟨Nat.le_trans h.1 k.1, fun i hi hn => by rw [k.2 i (by have := h.1; omega) hn, h.2 i hi hn]⟩
theorem Keep.mono {l l' : List Nat} {a b : VHeap} (h : Keep l a b) (k : ∀ i, i ∈ l → i ∈ l' ∨ a.length ≤ i) : Keep l' a b :=
  ⟨h.1, fun i hi hn => h.2 i hi fun hm => by rcases k i hm with k | k; exact hn k; omega⟩
theorem Keep.set {l : List Nat} {a b : VHeap} {i : Nat} {x : Nat × VObj} (h : Keep l a b) (k : i ∈ l ∨ a.length ≤ i) : Keep l a (b.set i x) :=
  ⟨by simpa using h.1, fun j hj hn => by rw [List.getElem?_set_ne (by rintro rfl; rcases k with k | k; exact hn k; omega)]; exact h.2 j hj hn⟩
theorem Keep.app {l : List Nat} {a b : VHeap} (τ : VHeap) (h : Keep l a b) : Keep l a (b ++ τ) :=
  ⟨by simp; have := h.1; omega, fun j hj hn => by rw [List.getElem?_append_left (by have := h.1; omega)]; exact h.2 j hj hn⟩
theorem Keep.get {l : List Nat} {a b : VHeap} (h : Keep l a b) {id g : Nat} {o : VObj} (k : vGet a id g = some o) (hn : id ∉ l) : vGet b id g = some o := by
  unfold vGet; rw [h.2 id (vGet_lt k) hn]; exact k
theorem Keep.pre {l : List Nat} {a b : VHeap} {τ : VHeap} (h : Keep l (a ++ τ) b) : Keep l a b :=
  ⟨by have := h.1; simp at this; omega, fun j hj hn => by rw [h.2 j (by simp; omega) hn, List.getElem?_append_left hj]⟩
/-- Behind a call that left the own part as it was: the older part, the own part, and what is new. -/
theorem Keep.split {l : List Nat} {σ L h' : VHeap} (h : Keep l (σ ++ L) h') (hl : ∀ i, i ∈ l → i < σ.length ∨ σ.length + L.length ≤ i) : ∃ σ' X, h' = σ' ++ (L ++ X) ∧ σ'.length = σ.length ∧ Keep l σ σ' := by
  have hlen := h.1
  rw [List.length_append] at hlen
  have eL : (h'.drop σ.length).take L.length = L := by
    apply List.ext_getElem?
    intro i
    by_cases hi : i < L.length
    · rw [List.getElem?_take_of_lt hi, List.getElem?_drop, h.2 (σ.length + i) (by rw [List.length_append]; omega) (fun hm => by rcases hl _ hm with k | k <;> omega), List.getElem?_append_right (by omega), Nat.add_sub_cancel_left]
    · rw [List.getElem?_eq_none (by rw [List.length_take]; omega), List.getElem?_eq_none (by omega)]
  have e0 : h' = h'.take σ.length ++ (L ++ h'.drop (σ.length + L.length)) := by
    conv => lhs; rw [← List.take_append_drop σ.length h', ← List.take_append_drop L.length (h'.drop σ.length), eL, List.drop_drop]
  refine ⟨h'.take σ.length, h'.drop (σ.length + L.length), e0, by rw [List.length_take]; omega, ?_⟩
  refine ⟨by rw [List.length_take]; omega, fun i hi hn => ?_⟩
  rw [List.getElem?_take_of_lt hi, h.2 i (by rw [List.length_append]; omega) hn, List.getElem?_append_left hi]
/-- The same where something lies behind the own part. -/
theorem Keep.splitX {l : List Nat} {σ L X h' : VHeap} (h : Keep l (σ ++ (L ++ X)) h') (hl : ∀ i, i ∈ l → i < σ.length ∨ σ.length + L.length ≤ i) : ∃ σ' X', h' = σ' ++ (L ++ X') ∧ σ'.length = σ.length := by
  have hlen := h.1
  rw [List.length_append, List.length_append] at hlen
  have eL : (h'.drop σ.length).take L.length = L := by
    apply List.ext_getElem?
    intro i
    by_cases hi : i < L.length
    · rw [List.getElem?_take_of_lt hi, List.getElem?_drop, h.2 (σ.length + i) (by rw [List.length_append, List.length_append]; omega) (fun hm => by rcases hl _ hm with k | k <;> omega), List.getElem?_append_right (by omega), Nat.add_sub_cancel_left, List.getElem?_append_left hi]
    · rw [List.getElem?_eq_none (by rw [List.length_take]; omega), List.getElem?_eq_none (by omega)]
  refine ⟨h'.take σ.length, h'.drop (σ.length + L.length), ?_, by rw [List.length_take]; omega⟩
  conv => lhs; rw [← List.take_append_drop σ.length h', ← List.take_append_drop L.length (h'.drop σ.length), eL, List.drop_drop]
theorem vGet_app {σ τ : VHeap} {id g : Nat} {o : VObj} (h : vGet σ id g = some o) : vGet (σ ++ τ) id g = some o := oget h
section
variable {P : Program} [Glob] {n : Nat} {K : Env → VHeap → Prop} {r : List VO} {d : Option Nat} {env : Env} {σ : VHeap}
theorem st_updF {b : Bool} {x y v : VA} {id g i bn clock : Nat} {es : Ents} {v0 k1 v1 : PV} (h : va env x = .map id g) (hk1 : va env y = k1) (hv1 : va env v = v1) [hp : Pl v1] (hg : vGet σ id g = some (.map es clock)) (hk : keyV b k1 = true) (hl : look k1 es = some (some (i, v0, bn)))
    (k : vrunOps P n K r (eput env d .undef) (σ.set id (g, .map (es.set i (k1, v1, bn)) clock))) : vrunOps P n K (⟨d, .mapUpdate b x y v, none⟩ :: r) env σ := by
  subst hk1 hv1
  simp only [vrunOps, vop, vMapUpdate, frz, hp.pl.1, hp.pl.2, frzIds, List.foldl_nil, withMap]
  refine ⟨hk, ?_⟩
  rw [h]; simp only [hg, hl]; exact k
theorem st_updN {b : Bool} {x y v : VA} {id g clock : Nat} {es : Ents} {k1 v1 : PV} (h : va env x = .map id g) (hk1 : va env y = k1) (hv1 : va env v = v1) [hp : Pl v1] (hg : vGet σ id g = some (.map es clock)) (hk : keyV b k1 = true) (hl : look k1 es = some none)
    (k : vrunOps P n K r (eput env d .undef) (σ.set id (g, .map (es ++ [(k1, v1, clock)]) (clock + 1)))) : vrunOps P n K (⟨d, .mapUpdate b x y v, none⟩ :: r) env σ := by
  subst hk1 hv1
  simp only [vrunOps, vop, vMapUpdate, frz, hp.pl.1, hp.pl.2, frzIds, List.foldl_nil, withMap]
  refine ⟨hk, ?_⟩
  rw [h]; simp only [hg, hl]; exact k
theorem st_delF {b : Bool} {x y : VA} {id g i bn clock : Nat} {es : Ents} {v0 : PV} (h : va env x = .map id g) (hg : vGet σ id g = some (.map es clock)) (hk : keyV b (va env y) = true) (hl : look (va env y) es = some (some (i, v0, bn)))
    (k : vrunOps P n K r (eput env d (.tup [])) (σ.set id (g, .map (es.eraseIdx i) clock))) : vrunOps P n K (⟨d, .delete b x y, none⟩ :: r) env σ := by
  simp only [vrunOps, vop, vDelete, withMap]
  refine ⟨hk, ?_⟩
  rw [h]; simp only [hg, hl]; exact k
theorem st_delN {b : Bool} {x y : VA} {id g clock : Nat} {es : Ents} (h : va env x = .map id g) (hg : vGet σ id g = some (.map es clock)) (hk : keyV b (va env y) = true) (hl : look (va env y) es = some none)
    (k : vrunOps P n K r (eput env d (.tup [])) (σ.set id (g, .map es clock))) : vrunOps P n K (⟨d, .delete b x y, none⟩ :: r) env σ := by
  simp only [vrunOps, vop, vDelete, withMap]
  refine ⟨hk, ?_⟩
  rw [h]; simp only [hg, hl]; exact k
theorem st_clearMap {x : VA} {id g clock : Nat} {es : Ents} (h : va env x = .map id g) (hg : vGet σ id g = some (.map es clock)) (k : vrunOps P n K r (eput env d (.tup [])) (σ.set id (g, .map [] clock))) : vrunOps P n K (⟨d, .clearMap x, none⟩ :: r) env σ := by
  simp only [vrunOps, vop, vMapClear, withMap]
  rw [h]; simp only [hg]; exact k
theorem st_nextMap {x : VA} {id g m mg since last clock : Nat} {seen : List Nat} {es : Ents} (h : va env x = .iter id g) (hi : vGet σ id g = some (.miter m mg since last seen)) (hm : vGet σ m mg = some (.map es clock))
    (hn : ¬ (seen ≠ [] ∧ es ≠ [] ∧ ∀ e, e ∈ es → last ≤ e.2.2))
    (hs : ∀ k v b, (k, v, b) ∈ es → seen.contains b = false → vrunOps P n K r (eput env d (.tup [.bool true, k, v])) (σ.set id (g, .miter m mg since clock (seen ++ [b]))))
    (he : (∀ e, e ∈ es → seen.contains e.2.2 = false → since ≤ e.2.2) → vrunOps P n K r (eput env d (.tup [.bool false])) σ) : vrunOps P n K (⟨d, .nextMap x, none⟩ :: r) env σ := by
  simp only [vrunOps, vop]; rw [h]; simp only [vNextMap, hi, hm]
  refine ⟨hn, fun c hc => ?_⟩
  unfold nexts at hc
  rw [List.mem_append] at hc
  rcases hc with hc | hc
  · split at hc
    · rename_i hall
      simp at hc; subst hc
      refine he fun e h1 h2 => ?_
      simp only [List.all_eq_true, List.mem_filter, decide_eq_true_eq] at hall
      exact hall e ⟨h1, by rw [h2]; rfl⟩
    · simp at hc
  · rw [List.mem_map] at hc
    obtain ⟨⟨k, v, b⟩, h1, rfl⟩ := hc
    rw [List.mem_filter] at h1
    exact hs k v b h1.1 (by simpa using h1.2)
theorem st_entry {x : VA} {id g m mg since clock b b' : Nat} {seen : List Nat} {es : Ents} {k v : PV} (h : va env x = .iter id g) (hi : vGet σ id g = some (.miter m mg since clock seen)) (hm : vGet σ m mg = some (.map es clock)) (hl : seen.getLast? = some b)
    (hf : es.find? (fun e => e.2.2 == b) = some (k, v, b')) (kk : vrunOps P n K r (eput env d (.tup [k, v])) σ) : vrunOps P n K (⟨d, .entry x, none⟩ :: r) env σ := by
  simp only [vrunOps, vop]; rw [h]; simp only [vEntry, hi, hm, hl, hf]; exact ⟨trivial, kk⟩
/-- An append to an older row. -/
theorem st_appendO {s sz by' : Nat} {x y : VA} {id g : Nat} {es new : List (List PV)} {fz : Bool} (h : va env x = .row id g) (e2 : rdA σ (va env y) = some new) (hok : RowOk sz new) (hg : vGet σ id g = some (.row sz es fz)) (hb : (es.length + new.length) * by' ≤ 140737488355328)
    (k : vrunOps P n K r (eput env d (.row id (g + 1))) (σ.set id (g + 1, .row sz (es ++ new) fz))) : vrunOps P n K (⟨d, .append s sz by' x y, none⟩ :: r) env σ := by
  simp only [vrunOps, vop, vAppend]; rw [e2]; refine ⟨hok, ?_⟩
  rw [h]; simp only [own, hg]; exact ⟨trivial, hb, k⟩
/-- A call whose arguments are an older row among others: told by what becomes of arguments and heap. -/
theorem st_callX {f : FuncId} {args : List VA} {vs ws : List PV} {σ' : VHeap} (h : args.map (va env) = vs) (hi : inlArgs σ vs = ws) (hf : frzArgs σ vs = σ') (k : T P f ws σ' fun v h' => vrunOps P n K r (eput env d v) h') : vrunOps P n K (⟨d, .call false f args, none⟩ :: r) env σ := by
  subst h hi hf
  simp only [vrunOps, vop, vCall]; exact k
/-- Cells without rows, over a call's boundary. -/
def plB : PV → Bool
  | .nils => true
  | .bool _ => true
  | .int _ _ => true
  | .str _ => true
  | .nilp => true
  | .ptr _ _ _ => true
  | .sl _ => true
  | .undef => true
  | _ => false
def nz : PV → PV
  | .nils => .sl []
  | c => c
omit [Glob] in
theorem InlA.flat {L0 L : VHeap} : ∀ {cs : List PV}, cs.all plB = true → InlA n L0 L cs (cs.map nz) L
  | [], _ => .nil _
  | c :: cs, h => by
    rw [List.all_cons, Bool.and_eq_true] at h
    have ih := InlA.flat (L0 := L0) (L := L) h.2
    cases c with
    | nils => exact .nils ih
    | bool _ => exact .pl inferInstance ih
    | int _ _ => exact .pl inferInstance ih
    | str _ => exact .pl inferInstance ih
    | nilp => exact .pl inferInstance ih
    | ptr _ _ _ => exact .pl inferInstance ih
    | sl _ => exact .pl inferInstance ih
    | undef => exact .pl inferInstance ih
    | _ => exact absurd h.1 (by simp [plB])
omit [Glob] in
/-- The end of a call whose own memory stays. -/
theorem ret_i {L L' : VHeap} {v v' : PV} {vf : VFun} {Post : KP} {e : VE} (he : e = .ret ∨ e = .normal) (hr : vf.raw = false) (hv : rvAll env (σ ++ L) vf.results = some v) (hi : InlA n L L [v] [v'] L') (hn : σ.length = n) (k : Post v' (σ ++ L')) : vend vf Post e env (σ ++ L) := by
  obtain ⟨e1, e2⟩ := hi.ok hn
  have : vret vf.raw (rvAll env (σ ++ L) vf.results) (σ ++ L) Post := by
    rw [hv, hr]
    simp only [vret, Bool.false_eq_true, if_false]
    rw [inlL, inlL] at e1
    rw [refsL, refsL, List.append_nil] at e2
    rw [List.cons.injEq] at e1
    rw [e1.1]
    have e3 : frz (σ ++ L) v = σ ++ L' := e2
    rw [e3]
    exact k
  rcases he with rfl | rfl <;> exact this
end
end Go.V
