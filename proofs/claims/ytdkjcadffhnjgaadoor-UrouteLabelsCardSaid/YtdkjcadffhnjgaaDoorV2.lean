/- Freezing; the frame; what an operation and a call must do. -/
import Derived.Test.YtdkjcadffhnjgaaDoorV1
namespace Go.V
open Go

def VObj.freeze : VObj → VObj
  | .box cs _ => .box cs true
  | .row sz es _ => .row sz es true
  | o => o
def VObj.fzd : VObj → Prop
  | .box _ fz => fz = true
  | .row _ _ fz => fz = true
  | _ => True
theorem VObj.freeze_fzd (o : VObj) : o.freeze.fzd := by cases o <;> simp [VObj.freeze, VObj.fzd]
theorem VObj.freeze_alike (o : VObj) : o.alike o.freeze := by cases o <;> simp [VObj.freeze, VObj.alike]
theorem VObj.freeze_live {o : VObj} : o.freeze.live ↔ o.live := by cases o <;> simp [VObj.freeze, VObj.live]
theorem VObj.freeze_may {o : VObj} {i : Nat} (h : o.freeze.may i) : o.may i := by cases o <;> simp_all [VObj.freeze, VObj.may]
theorem VObj.freeze_freeze (o : VObj) : o.freeze.freeze = o.freeze := by cases o <;> simp [VObj.freeze]

def frzId (σ : VHeap) (id : Nat) : VHeap :=
  match σ[id]? with
  | some (g, o) => σ.set id (g, o.freeze)
  | none => σ
def frzIds (σ : VHeap) (l : List Nat) : VHeap := l.foldl frzId σ

/-- The same but for marks. -/
def FE (σ σ' : VHeap) : Prop := ∀ id : Nat, σ'[id]? = σ[id]? ∨ ∃ g o, σ[id]? = some (g, o) ∧ σ'[id]? = some (g, o.freeze)
def Fz (σ : VHeap) (id : Nat) : Prop := ∀ (g : Nat) (o : VObj), σ[id]? = some (g, o) → o.fzd

theorem FE.refl (σ : VHeap) : FE σ σ := fun _ => .inl rfl
theorem FE.trans {a b c : VHeap} (h : FE a b) (k : FE b c) : FE a c := by
  intro id
  rcases h id with h1 | ⟨g, o, h1, h2⟩ <;> rcases k id with k1 | ⟨g', o', k1, k2⟩
  · exact .inl (k1.trans h1)
  · exact .inr ⟨g', o', h1 ▸ k1, k2⟩
  · exact .inr ⟨g, o, h1, k1.trans h2⟩
  · rw [h2] at k1; cases k1
    exact .inr ⟨g, o, h1, by rw [k2, VObj.freeze_freeze]⟩
theorem frzId_FE (σ : VHeap) (id : Nat) : FE σ (frzId σ id) := by
  unfold frzId
  split
  · rename_i g o h
    intro i
    by_cases e : i = id
    · subst e; exact .inr ⟨g, o, h, set_same h⟩
    · exact .inl (List.getElem?_set_ne (Ne.symm e))
  · exact FE.refl σ
theorem frzIds_FE (l : List Nat) : ∀ σ : VHeap, FE σ (frzIds σ l) := by
  induction l with
  | nil => exact FE.refl
  | cons a l ih => intro σ; exact (frzId_FE σ a).trans (ih _)
theorem Fz.mono {σ σ' : VHeap} {id : Nat} (h : Fz σ id) (k : FE σ σ') : Fz σ' id := by
  intro g o ho
  rcases k id with k1 | ⟨g', o', k1, k2⟩
  · exact h g o (k1 ▸ ho)
  · rw [k2] at ho; cases ho; exact VObj.freeze_fzd o'
theorem frzId_Fz (σ : VHeap) (id : Nat) : Fz (frzId σ id) id := by
  unfold frzId
  split
  · rename_i g o h
    intro g' o' h'
    rw [set_same h] at h'; cases h'
    exact VObj.freeze_fzd o
  · rename_i h
    intro g' o' h'
    rw [h] at h'; cases h'
theorem frzIds_Fz (l : List Nat) : ∀ (σ : VHeap) (id : Nat), id ∈ l → Fz (frzIds σ l) id := by
  induction l with
  | nil => intro σ id h; cases h
  | cons a l ih =>
    intro σ id h
    cases h with
    | head => exact (frzId_Fz σ _).mono (frzIds_FE l _)
    | tail _ h => exact ih _ id h

theorem FE.step {σ σ' : VHeap} (h : FE σ σ') (β : Beta) (w : World) : Step σ β w σ' β w := by
  refine ⟨rfl, rfl, rfl, Nat.le_refl _, fun _ _ _ => rfl, fun _ _ h _ => h, ?_, ?_, fun _ arr _ _ h => ⟨arr, h, rfl⟩, ?_⟩
  · rintro b _ ⟨id, g, o, h1, h2, h3⟩
    rcases h id with k | ⟨g', o', k1, k2⟩
    · exact ⟨id, g, o, k ▸ h1, h2, h3⟩
    · rw [k2] at h1; cases h1; exact ⟨id, g, o', k1, h2, VObj.freeze_live.1 h3⟩
  · rintro b i _ ⟨id, g, o, h1, h2, h3⟩
    rcases h id with k | ⟨g', o', k1, k2⟩
    · exact ⟨id, g, o, k ▸ h1, h2, h3⟩
    · rw [k2] at h1; cases h1; exact ⟨id, g, o', k1, h2, VObj.freeze_may h3⟩
  · intro id g o h1
    rcases h id with k | ⟨g', o', k1, k2⟩
    · exact ⟨g, o, k.trans h1, Nat.le_refl _, fun _ => ⟨o.alike_refl, rfl⟩⟩
    · rw [h1] at k1; cases k1; exact ⟨g, o.freeze, k2, Nat.le_refl _, fun _ => ⟨o.freeze_alike, rfl⟩⟩

theorem ORep.freeze {w : World} {σ : VHeap} {β : Beta} {ob : Option Nat} {o : VObj} (h : ORep w σ β ob o) : ORep w σ β ob o.freeze := by cases o <;> exact h

theorem FE.sim {σ σ' : VHeap} (h : FE σ σ') {β : Beta} {w : World} (hs : Sim σ β w) : Sim σ' β w := by
  refine ⟨fun id g o h1 => ?_, fun i j b gi gj oi oj h1 h2 l1 l2 b1 b2 => ?_⟩
  · rcases h id with k | ⟨g', o', k1, k2⟩
    · exact (hs.obj id g o (k ▸ h1)).step (h.step β w) fun _ _ => rfl
    · rw [k2] at h1; cases h1; exact ((hs.obj id g o' k1).step (h.step β w) fun _ _ => rfl).freeze
  · have f : ∀ {i g : Nat} {o : VObj}, σ'[i]? = some (g, o) → o.live → ∃ g o, σ[i]? = some (g, o) ∧ o.live := by
      intro i g o h1 h2
      rcases h i with k | ⟨g', o', k1, k2⟩
      · exact ⟨g, o, k ▸ h1, h2⟩
      · rw [k2] at h1; cases h1; exact ⟨g, o', k1, VObj.freeze_live.1 h2⟩
    obtain ⟨g1, o1, e1, f1⟩ := f h1 l1
    obtain ⟨g2, o2, e2, f2⟩ := f h2 l2
    exact hs.inj i j b g1 g2 o1 o2 e1 e2 f1 f2 b1 b2

mutual
def inl (σ : VHeap) : PV → PV
  | .agg cs => .agg (inlL σ cs)
  | .tup vs => .tup (inlL σ vs)
  | .nils => .sl []
  | .row id g => match σ[id]? with
    | some (g', .row _ es _) => if g' = g then .sl es else .undef
    | _ => .undef
  | .bview id g off len => match σ[id]? with
    | some (g', .box cs _) => if g' = g then .sl (((cs.drop off).take len).map fun c => [c]) else .undef
    | _ => .undef
  | .rview id g lo len => match σ[id]? with
    | some (g', .row _ es _) => if g' = g then .sl ((es.drop lo).take len) else .undef
    | _ => .undef
  | .bool b => .bool b
  | .int k n => .int k n
  | .str s => .str s
  | .nilp => .nilp
  | .ptr id g off => .ptr id g off
  | .rptr id g i off => .rptr id g i off
  | .iptr cs off => .iptr cs off
  | .sl es => .sl es
  | .map id g => .map id g
  | .nilm => .nilm
  | .fn f cap => .fn f cap
  | .iter id g => .iter id g
  | .undef => .undef
  | .slr es _ _ => .sl es
def inlL (σ : VHeap) : List PV → List PV
  | [] => []
  | c :: cs => inl σ c :: inlL σ cs
end
mutual
def refs : PV → List Nat
  | .agg cs => refsL cs
  | .tup vs => refsL vs
  | .row id _ => [id]
  | .bview id _ _ _ => [id]
  | .rview id _ _ _ => [id]
  | .nils => []
  | .bool _ => []
  | .int _ _ => []
  | .str _ => []
  | .nilp => []
  | .ptr _ _ _ => []
  | .rptr _ _ _ _ => []
  | .iptr _ _ => []
  | .sl _ => []
  | .map _ _ => []
  | .nilm => []
  | .fn _ _ => []
  | .iter _ _ => []
  | .undef => []
  | .slr _ _ _ => []
def refsL : List PV → List Nat
  | [] => []
  | c :: cs => refs c ++ refsL cs
end
theorem inlL_eq (σ : VHeap) (cs : List PV) : inlL σ cs = cs.map (inl σ) := by
  induction cs with
  | nil => rfl
  | cons c cs ih => rw [inlL, ih]; rfl
theorem refsL_eq (cs : List PV) : refsL cs = cs.flatMap refs := by
  induction cs with
  | nil => rfl
  | cons c cs ih => rw [refsL, ih]; rfl

theorem row_still {σ β w σ'} (hs : Sim σ β w) (hf : FE σ σ') {id g b sz : Nat} {es : List (List PV)} {fz : Bool} {arr : Array Value} (h : σ[id]? = some (g, .row sz es fz)) (hb : β id = some b)
    (hz : Fz σ' id) (hc : Cells w b arr) {i : Nat} (hi : i < es.length * sz) (hia : i < arr.size) : w.cell? ⟨b, i, none⟩ = some (arr.getD i default) ∧ ¬ Wr σ' β b i := by
  refine ⟨by rw [hc.cell, Array.getElem?_eq_getElem hia, Array.getD_eq_getD_getElem?, Array.getElem?_eq_getElem hia]; rfl, ?_⟩
  rintro ⟨j, gj, oj, h1, h2, h3⟩
  have hs' := hf.sim hs
  have h4 : ∃ o', σ'[id]? = some (g, o') ∧ o'.live ∧ (∃ fz', o' = .row sz es fz') := by
    rcases hf id with k | ⟨g', o', k1, k2⟩
    · exact ⟨_, k.trans h, trivial, fz, rfl⟩
    · rw [h] at k1; cases k1; exact ⟨_, k2, trivial, true, rfl⟩
  obtain ⟨o', h5, h6, fz', h7⟩ := h4
  have e := hs'.inj j id b gj g oj o' h1 h5 (VObj.live_of_may h3) h6 h2 hb
  subst e
  rw [h5] at h1; cases h1
  have h8 := hz g _ h5
  subst h7
  have := h3 h8
  omega

theorem box_still {σ β w σ'} (hs : Sim σ β w) (hf : FE σ σ') {id g b : Nat} {cs : List PV} {fz : Bool} {arr : Array Value} (h : σ[id]? = some (g, .box cs fz)) (hb : β id = some b)
    (hz : Fz σ' id) (hc : Cells w b arr) {i : Nat} (hia : i < arr.size) : w.cell? ⟨b, i, none⟩ = some (arr.getD i default) ∧ ¬ Wr σ' β b i := by
  refine ⟨by rw [hc.cell, Array.getElem?_eq_getElem hia, Array.getD_eq_getD_getElem?, Array.getElem?_eq_getElem hia]; rfl, ?_⟩
  rintro ⟨j, gj, oj, h1, h2, h3⟩
  have hs' := hf.sim hs
  have h4 : ∃ o', σ'[id]? = some (g, o') ∧ o'.live ∧ (∃ fz', o' = .box cs fz') := by
    rcases hf id with k | ⟨g', o', k1, k2⟩
    · exact ⟨_, k.trans h, trivial, fz, rfl⟩
    · rw [h] at k1; cases k1; exact ⟨_, k2, trivial, true, rfl⟩
  obtain ⟨o', h5, h6, fz', h7⟩ := h4
  have e := hs'.inj j id b gj g oj o' h1 h5 (VObj.live_of_may h3) h6 h2 hb
  subst e
  rw [h5] at h1; cases h1
  have h8 := hz g _ h5
  subst h7
  simp only [VObj.fzd] at h8
  simp only [VObj.may] at h3
  rw [h8] at h3; cases h3

theorem inl_rep {σ β w σ'} (hs : Sim σ β w) (hf : FE σ σ') {c : PV} {v : Value} (hr : Rep w σ β c v) : (∀ id, id ∈ refs c → Fz σ' id) → Rep w σ' β (inl σ c) v := by
  have hst := hf.step β w
  induction hr with
  | agg cs vs hl h ih =>
    intro hz
    rw [inl, inlL_eq]
    refine .agg _ vs (by simpa using hl) fun i c v h1 h2 => ?_
    rw [List.getElem?_map] at h1
    cases h3 : cs[i]? with
    | none => rw [h3] at h1; cases h1
    | some c0 =>
      rw [h3] at h1; cases h1
      exact ih i c0 v h3 h2 fun id hid => hz id (by rw [refs, refsL_eq]; exact List.mem_flatMap.2 ⟨c0, List.mem_of_getElem? h3, hid⟩)
  | tup cs vs hl h ih =>
    intro hz
    rw [inl, inlL_eq]
    refine .tup _ vs (by simpa using hl) fun i c v h1 h2 => ?_
    rw [List.getElem?_map] at h1
    cases h3 : cs[i]? with
    | none => rw [h3] at h1; cases h1
    | some c0 =>
      rw [h3] at h1; cases h1
      exact ih i c0 v h3 h2 fun id hid => hz id (by rw [refs, refsL_eq]; exact List.mem_flatMap.2 ⟨c0, List.mem_of_getElem? h3, hid⟩)
  | nils => intro _; rw [inl]; exact .sl [] 0 0 0 none (fun _ => default) rfl (Nat.le_refl _) (by simp) (by omega) (by simp)
  | stalerow id g g' o p n c h1 hg =>
    intro _
    rw [inl]
    split
    · rename_i g2 sz es fz h2
      rw [h1] at h2; cases h2
      rw [if_neg (by omega)]; exact .undef _
    · exact .undef _
  | rownil id g sz fz ad h1 hb =>
    intro _
    rw [inl, h1]; simp only [if_true]
    exact .sl [] 0 0 0 ad (fun _ => default) rfl (Nat.le_refl _) (by simp) (by omega) (by simp)
  | row id g b sz cap es fz arr ty fr h1 hb hh hc hsz =>
    intro hz
    have hz := hz id (by simp [refs])
    have hob := hs.obj id g _ h1
    rcases hob with ⟨e, _⟩ | ⟨b', arr', e, hcl, hle, hel, hre⟩
    · rw [hb] at e; cases e
    · rw [hb] at e; cases e
      rw [inl, h1]; simp only [if_true]
      refine .sl es sz es.length cap _ (fun i => arr'.getD i default) rfl hc hel (fun _ => ⟨_, rfl, ?_⟩) ?_
      · intro j hj
        have := row_still hs hf h1 hb hz hcl hj (by omega)
        rw [add_mk, Nat.zero_add]; exact this
      · intro i e j c h2 h3
        have h4 : i < es.length := (List.getElem?_eq_some_iff.1 h2).1
        have h5 : j < sz := by rw [← hel e (List.mem_of_getElem? h2)]; exact (List.getElem?_eq_some_iff.1 h3).1
        have h6 : i * sz + j < es.length * sz := by
          have : (i + 1) * sz ≤ es.length * sz := Nat.mul_le_mul_right _ h4
          rw [Nat.add_mul] at this; omega
        have h7 : i * sz + j < arr'.size := by omega
        refine (hre i e j c (arr'.getD (i * sz + j) default) h2 h3 ?_).step hst
        rw [Array.getElem?_eq_getElem h7, Array.getD_eq_getD_getElem?, Array.getElem?_eq_getElem h7]; rfl
  | stalebv id g off len g' o p n c h1 hg =>
    intro _
    rw [inl]
    split
    · rename_i g2 cs fz h2
      rw [h1] at h2; cases h2
      rw [if_neg (by omega)]; exact .undef _
    · exact .undef _
  | bview id g off len b cap a cs fz h1 hb hl hc ha =>
    intro hz
    have hz := hz id (by simp [refs])
    obtain ⟨b', arr, e, hcl, hle, hre⟩ := hs.obj id g _ h1
    rw [hb] at e; cases e
    rw [inl, h1]; simp only [if_true]
    have hlen : (((cs.drop off).take len).map fun c => [c]).length = len := by simp; omega
    refine .sl _ 1 len cap a (fun i => arr.getD (off + i) default) hlen hc (by intro e he; obtain ⟨c, _, rfl⟩ := List.mem_map.1 he; rfl) (fun h0 => ⟨_, ha h0, ?_⟩) ?_
    · intro j hj
      have := box_still (i := off + j) hs hf h1 hb hz hcl (by omega)
      rw [add_mk]; exact this
    · intro i e j c h2 h3
      rw [List.getElem?_map, List.getElem?_take] at h2
      split at h2
      · rename_i hi
        rw [List.getElem?_drop] at h2
        cases h4 : cs[off + i]? with
        | none => rw [h4] at h2; cases h2
        | some c0 =>
          rw [h4] at h2; cases h2
          have hj0 : j = 0 := by
            have := (List.getElem?_eq_some_iff.1 h3).1
            simp at this; omega
          subst hj0
          cases h3
          have h7 : off + i < arr.size := by omega
          simp only [Nat.mul_one, Nat.add_zero]
          refine (hre (off + i) _ (arr.getD (off + i) default) h4 ?_).step hst
          rw [Array.getElem?_eq_getElem h7, Array.getD_eq_getD_getElem?, Array.getElem?_eq_getElem h7]; rfl
      · cases h2
  | stalerv id g lo len g' o p n c h1 hg =>
    intro _
    rw [inl]
    split
    · rename_i g2 sz es fz h2
      rw [h1] at h2; cases h2
      rw [if_neg (by omega)]; exact .undef _
    · exact .undef _
  | rview id g lo len cap sz a es fz h1 hl hc ha =>
    intro hz
    have hz := hz id (by simp [refs])
    rw [inl, h1]; simp only [if_true]
    by_cases h00 : len = 0
    · subst h00
      rw [List.take_zero]
      exact .sl [] 0 0 cap a (fun _ => default) rfl (Nat.zero_le _) (by simp) (by omega) (by simp)
    obtain ⟨b, hb, ha⟩ := ha (by omega)
    have hob := hs.obj id g _ h1
    rcases hob with ⟨e, _⟩ | ⟨b', arr', e, hcl, hle, hel, hre⟩
    · rw [hb] at e; cases e
    · rw [hb] at e; cases e
      have hle2 : (lo + len) * sz ≤ es.length * sz := Nat.mul_le_mul_right _ hl
      rw [Nat.add_mul] at hle2
      refine .sl _ sz len cap a (fun i => arr'.getD (lo * sz + i) default) (by simp; omega) hc (fun e he => hel e (List.mem_of_mem_drop (List.mem_of_mem_take he))) (fun h0 => ⟨_, ha, ?_⟩) ?_
      · intro j hj
        have := row_still (i := lo * sz + j) hs hf h1 hb hz hcl (by omega) (by omega)
        rw [add_mk]; exact this
      · intro i e j c h2 h3
        rw [List.getElem?_take] at h2
        split at h2
        · rename_i hi
          rw [List.getElem?_drop] at h2
          have h5 : j < sz := by rw [← hel e (List.mem_of_getElem? h2)]; exact (List.getElem?_eq_some_iff.1 h3).1
          have h6 : i * sz + j < len * sz := by
            have : (i + 1) * sz ≤ len * sz := Nat.mul_le_mul_right _ hi
            rw [Nat.add_mul] at this; omega
          have h7 : lo * sz + (i * sz + j) < arr'.size := by omega
          refine (hre (lo + i) e j c (arr'.getD (lo * sz + (i * sz + j)) default) h2 h3 ?_).step hst
          rw [Nat.add_mul, Nat.add_assoc, Array.getElem?_eq_getElem h7, Array.getD_eq_getD_getElem?, Array.getElem?_eq_getElem h7]; rfl
        · cases h2
  | bool b => intro _; exact .bool b
  | int k n => intro _; exact .int k n
  | str s => intro _; exact .str s
  | nilp => intro _; exact .nilp
  | stalep id g off g' o v h1 hg => intro _; exact (Rep.stalep id g off g' o v h1 hg).step hst
  | ptr id g off b cs fz h1 hb => intro _; exact (Rep.ptr id g off b cs fz h1 hb).step hst
  | stalerp id g i off g' o v h1 hg => intro _; exact (Rep.stalerp id g i off g' o v h1 hg).step hst
  | rptr id g i off b sz es fz h1 hb => intro _; exact (Rep.rptr id g i off b sz es fz h1 hb).step hst
  | iptr cells off a a0 f ha hs h => intro _; exact (Rep.iptr cells off a a0 f ha hs h).step hst
  | sl es sz n cap a f hn hc hsz ha h => intro _; exact (Rep.sl es sz n cap a f hn hc hsz ha h).step hst
  | stalemap id g g' o v h1 hg => intro _; exact (Rep.stalemap id g g' o v h1 hg).step hst
  | map id g b es clock h1 hb => intro _; exact (Rep.map id g b es clock h1 hb).step hst
  | nilm => intro _; exact .nilm
  | fn f cap vs hl h => intro _; exact (Rep.fn f cap vs hl h).step hst
  | staleit id g g' o v h1 hg => intro _; exact (Rep.staleit id g g' o v h1 hg).step hst
  | siter id g b s pos h1 hb => intro _; exact (Rep.siter id g b s pos h1 hb).step hst
  | miter id g b m mg since stepped seen h1 hb => intro _; exact (Rep.miter id g b m mg since stepped seen h1 hb).step hst
  | undef v => intro _; exact .undef v
  | slr es id g v _ _ i1 _ =>
    intro _
    have := i1 (by simp [refs])
    rw [inl] at this
    rw [inl]; exact this

def frz (σ : VHeap) (c : PV) : VHeap := frzIds σ (refs c)
theorem frz_rep {σ β w} (hs : Sim σ β w) {c : PV} {v : Value} (hr : Rep w σ β c v) :
    Rep w (frz σ c) β (inl σ c) v ∧ Sim (frz σ c) β w ∧ Step σ β w (frz σ c) β w :=
  have hf := frzIds_FE (refs c) σ
  ⟨inl_rep hs hf hr fun id hid => frzIds_Fz _ _ id hid, hf.sim hs, hf.step β w⟩

end Go.V
