/- What is written, loops; orders that are open, brought into one. -/
import Derived.Test.YtdkjcadffhnjgaaDoorVK
namespace Go.V
open Go

/-! ### Which slots are written. -/
def wr : VC → List Nat
  | .region ops => ops.flatMap fun o => o.dst.toList
  | .dreg ops _ _ => ops.flatMap fun o => o.1.dst.toList
  | .seq x y | .cond _ x y => wr x ++ wr y
  | .block _ c | .loop c => wr c
  | _ => []
def memN : List Nat → Nat → Bool
  | [], _ => false
  | x :: l, i => cond (Nat.beq x i) true (memN l i)
theorem memN_iff {l : List Nat} {i : Nat} : memN l i = true ↔ i ∈ l := by
  induction l with
  | nil => simp [memN]
  | cons x l ih =>
    unfold memN
    cases h : Nat.beq x i with
    | true => simp [Nat.eq_of_beq_eq_true h]
    | false =>
      have : i ≠ x := fun e => by subst e; rw [Nat.beq_refl] at h; cases h
      simp [ih, this]
/-- Some slots by one, the rest by another. -/
def mix (W : List Nat) (a env : Env) : Env := fun i => cond (memN W i) (a i) (env i)
theorem mix_same {W : List Nat} {a env : Env} (h : ∀ i, i ∉ W → a i = env i) : mix W a env = a := by
  funext i
  unfold mix
  cases hm : memN W i with
  | true => rfl
  | false => exact (h i fun e => by rw [memN_iff.2 e] at hm; cases hm).symm

section
variable {P : Program} {n : Nat}
theorem eput_get (env : Env) (d : Option Nat) (v : PV) {i : Nat} (h : i ∉ d.toList) : eput env d v i = env i := by
  cases d with
  | none => rfl
  | some d =>
    have : Nat.beq i d = false := by cases hb : Nat.beq i d with | false => rfl | true => exact (h (by simp [Nat.eq_of_beq_eq_true hb])).elim
    simp [eput, this]

theorem vrunOps_wr [Glob] {K : Env → VHeap → Prop} : ∀ (l : List VO) (env : Env) (σ : VHeap), vrunOps P n K l env σ → vrunOps P n (fun e s => (∀ i, i ∉ l.flatMap (fun o => o.dst.toList) → e i = env i) ∧ K e s) l env σ
  | [], env, σ, h => ⟨fun _ _ => rfl, h⟩
  | o :: l, env, σ, h => by
    have step : ∀ (v : PV) (σ' : VHeap), vrunOps P n K l (eput env o.dst v) σ' → vrunOps P n (fun e s => (∀ i, i ∉ (o :: l).flatMap (fun o => o.dst.toList) → e i = env i) ∧ K e s) l (eput env o.dst v) σ' := fun v σ' h =>
      vrunOps_mono (fun e s h => ⟨fun i hi => by
        rw [List.flatMap_cons, List.mem_append, not_or] at hi
        rw [h.1 i hi.2, eput_get _ _ _ hi.1], h.2⟩) _ _ _ (vrunOps_wr l _ _ h)
    simp only [vrunOps] at *
    split
    · exact vop_mono (fun r σ' h => step _ _ h) (by simpa [*] using h)
    · rename_i slot pol hg
      simp only [hg] at h
      split
      · rename_i b hb
        simp only [hb] at h
        split
        · rename_i hp; rw [if_pos hp] at h; exact vop_mono (fun r σ' h => step _ _ h) h
        · rename_i hp; rw [if_neg hp] at h; exact step _ _ h
      · rename_i hb; simp only [hb] at h; exact step _ _ h
      · rename_i h1 h2
        split at h
        · rename_i b hb; exact (h1 b hb).elim
        · rename_i hb; exact (h2 hb).elim
        · exact h

theorem vany_wr [Glob] {K : Env → VHeap → Prop} {ops : List (VO × List Nat)} {env0 : Env} : ∀ (fuel : Nat) (listed : List Nat) (env : Env) (σ : VHeap), (∀ i, i ∉ ops.flatMap (fun o => o.1.dst.toList) → env i = env0 i) → vany P n K ops fuel listed env σ →
    vany P n (fun e s => (∀ i, i ∉ ops.flatMap (fun o => o.1.dst.toList) → e i = env0 i) ∧ K e s) ops fuel listed env σ
  | 0, _, _, _, he, h => ⟨h.1, he, h.2⟩
  | fuel + 1, _, _, _, he, h => ⟨fun e => ⟨he, h.1 e⟩, fun i q h1 h2 => vrunOps_mono (fun e s h => vany_wr fuel _ e s (fun j hj => by
      have hin : q.1.dst.toList ⊆ ops.flatMap (fun o => o.1.dst.toList) := fun x hx => List.mem_flatMap.2 ⟨q, List.mem_of_getElem? h2, hx⟩
      rw [h.1 j (by simp only [List.flatMap_cons, List.flatMap_nil, List.append_nil]; exact fun hj' => hj (hin hj'))]
      exact he j hj) h.2) _ _ _ (vrunOps_wr _ _ _ (h.2 i q h1 h2))⟩

theorem vrun_wr [Glob] : ∀ (c : VC) (env : Env) (σ : VHeap) (Q : QP), vrun P n c env σ Q → vrun P n c env σ (fun e env' σ' => (∀ i, i ∉ wr c → env' i = env i) ∧ Q e env' σ')
  | .skip, _, _, _, h => ⟨fun _ _ => rfl, h⟩
  | .region ops, env, σ, Q, h => vrunOps_wr ops env σ h
  | .seq x y, env, σ, Q, h => vrun_mono x _ _ (fun e env' σ' h => by
      obtain ⟨h1, h⟩ := h
      have h1 : ∀ i, i ∉ wr x ++ wr y → env' i = env i := fun i hi => h1 i fun e => hi (List.mem_append_left _ e)
      cases e with
      | normal => exact vrun_mono y _ _ (fun e env2 σ2 h => ⟨fun i hi => by rw [h.1 i fun e => hi (List.mem_append_right _ e), h1 i hi], h.2⟩) (vrun_wr y env' σ' Q h)
      | exit id => exact ⟨h1, h⟩
      | ret => exact ⟨h1, h⟩) (vrun_wr x env σ _ h)
  | .cond c x y, env, σ, Q, h => by
    simp only [vrun, vcond] at *
    split at h
    · exact vrun_mono x _ _ (fun e env2 σ2 h => ⟨fun i hi => h.1 i fun e => hi (List.mem_append_left _ e), h.2⟩) (vrun_wr x env σ Q h)
    · exact vrun_mono y _ _ (fun e env2 σ2 h => ⟨fun i hi => h.1 i fun e => hi (List.mem_append_right _ e), h.2⟩) (vrun_wr y env σ Q h)
    · exact h.elim
  | .block id c, env, σ, Q, h => vrun_mono c _ _ (fun e env' σ' h => by
      obtain ⟨h1, h⟩ := h
      cases e with
      | normal => exact ⟨h1, h⟩
      | exit id' => simp only [QP.block] at *; split <;> rename_i hh <;> simp only [hh, if_true, if_false] at h <;> exact ⟨h1, h⟩
      | ret => exact ⟨h1, h⟩) (vrun_wr c env σ _ h)
  | .loop c, env, σ, Q, ⟨I, ⟨k0, h1⟩, h2⟩ => ⟨fun k e s => (∀ i, i ∉ wr c → e i = env i) ∧ I k e s, ⟨k0, fun _ _ => rfl, h1⟩, fun m e s hi => vrun_mono c _ _ (fun x env' σ' h => by
      obtain ⟨g, h⟩ := h
      have g2 : ∀ i, i ∉ wr c → env' i = env i := fun i hh => by rw [g i hh, hi.1 i hh]
      cases x with
      | normal => obtain ⟨k', hk, h⟩ := h; exact ⟨k', hk, g2, h⟩
      | exit id' => exact ⟨g2, h⟩
      | ret => exact ⟨g2, h⟩) (vrun_wr c e s _ (h2 m e s hi.2))⟩
  | .exit id, _, _, _, h => ⟨fun _ _ => rfl, h⟩
  | .ret, _, _, _, h => ⟨fun _ _ => rfl, h⟩
  | .dreg ops _ _, env, σ, Q, h => vany_wr ops.length [] env σ (fun _ _ => rfl) h
  | .stuck, _, _, _, h => h.elim

/-- A LOOP: what its rounds do not write is as it was. -/
theorem lp [Glob] {c : VC} {env : Env} {σ : VHeap} {Q : QP} {W : List Nat} (I : Nat → Env → VHeap → Prop) (k0 : Nat) (h0 : I k0 env σ)
    (hb : ∀ (k : Nat) (u : Env) (σ' : VHeap), I k (mix W u env) σ' → vrun P n c (mix W u env) σ' (Q.then fun env' σ' => ∃ k', k' < k ∧ I k' env' σ')) (hW : wr c = W := by exact rfl) : vrun P n (.loop c) env σ Q := by
  subst hW
  refine ⟨fun k e s => I k e s ∧ ∀ i, i ∉ wr c → e i = env i, ⟨k0, h0, fun _ _ => rfl⟩, fun k e s hi => ?_⟩
  have hm := mix_same hi.2
  have := hb k e s (by rw [hm]; exact hi.1)
  rw [hm] at this
  refine vrun_mono c _ _ (fun x env' σ' h => ?_) (vrun_wr c e s _ this)
  obtain ⟨g, h⟩ := h
  have g2 : ∀ i, i ∉ wr c → env' i = env i := fun i hh => by rw [g i hh, hi.2 i hh]
  cases x with
  | normal => obtain ⟨k', hk, h⟩ := h; exact ⟨k', hk, h, g2⟩
  | exit id' => exact h
  | ret => exact h
/-- A CUT: what holds behind a piece is enough for the next one. -/
theorem cutp [Glob] {x y : VC} {env : Env} {σ : VHeap} {Q : QP} {W : List Nat} (I : Env → VHeap → Prop) (h1 : vrun P n x env σ (Q.then I)) (h2 : ∀ (u : Env) (σ' : VHeap), I (mix W u env) σ' → vrun P n y (mix W u env) σ' Q) (hW : wr x = W := by exact rfl) : vrun P n (.seq x y) env σ Q := by
  subst hW
  refine vrun_mono x _ _ (fun e env' σ' h => ?_) (vrun_wr x env σ _ h1)
  obtain ⟨g, h⟩ := h
  cases e with
  | normal =>
    have := h2 env' σ' (by rw [mix_same g]; exact h)
    rw [mix_same g] at this; exact this
  | exit id => exact h
  | ret => exact h
end

/-! ### Orders that are open. -/
def looksO (o : VO) : List Nat := looks o.op ++ (match o.guard with | some (g, _) => [g] | none => [])
def apartO (x y : VO) : Bool :=
  (match x.dst with | some d => !memN (looksO y) d && !(match y.dst with | some e => Nat.beq d e | none => false) | none => true) && (match y.dst with | some d => !memN (looksO x) d | none => true)
/-- An operation that but yields a value. -/
def YO [Glob] (P : Program) (n : Nat) (o : VO) (env : Env) (h : VHeap) (v : PV) : Prop := ∀ K : Env → VHeap → Prop, K (eput env o.dst v) h → vrunOps P n K [o] env h

section
variable {P : Program} {n : Nat} {env env' : Env} {h : VHeap} {v : PV}
theorem YO.congr [Glob] {o : VO} (y : YO P n o env h v) (he : ∀ t, t ∈ looksO o → env' t = env t) : YO P n o env' h v := by
  intro K hK
  have hop : ∀ (K : KP), vop P n env' h K o.op = vop P n env h K o.op := fun K => vop_congr fun t ht => he t (List.mem_append_left _ ht)
  have hy := y (fun e s => K (eput env' o.dst (match o.dst with | some d => e d | none => v)) s) (by
    cases hd : o.dst with
    | none => rw [hd] at hK; exact hK
    | some d =>
      rw [hd] at hK
      have : eput env (some d) v d = v := by simp [eput, Nat.beq_refl]
      simp only [this]; exact hK)
  have key : ∀ r : PV, eput env' o.dst (match o.dst with | some d => eput env o.dst r d | none => v) = eput env' o.dst r := by
    intro r
    cases hd : o.dst with
    | none => rfl
    | some d => simp [eput, Nat.beq_refl]
  simp only [vrunOps, key] at *
  cases hg : o.guard with
  | none => simp only [hg] at hy ⊢; rw [hop]; exact hy
  | some q =>
    obtain ⟨g, b⟩ := q
    have hgs : env' g = env g := he g (by simp [looksO, hg])
    simp only [hg, hgs, hop] at hy ⊢
    exact hy

theorem eput_comm (env : Env) {d d' : Option Nat} (v v' : PV) (hne : ∀ x, d = some x → d' ≠ some x) : eput (eput env d v) d' v' = eput (eput env d' v') d v := by
  cases d with
  | none => rfl
  | some d =>
    cases d' with
    | none => rfl
    | some d' =>
      have : d ≠ d' := fun e => hne d rfl (by rw [e])
      funext i
      simp only [eput]
      cases h1 : Nat.beq i d with
      | false => rfl
      | true =>
        have : Nat.beq i d' = false := by
          cases h2 : Nat.beq i d' with
          | false => rfl
          | true => exact (this ((Nat.eq_of_beq_eq_true h1).symm.trans (Nat.eq_of_beq_eq_true h2))).elim
        simp [this]

theorem apart_spec {x y : VO} (ha : apartO x y = true) : (∀ d, x.dst = some d → d ∉ looksO y) ∧ (∀ d, x.dst = some d → y.dst ≠ some d) ∧ (∀ d, y.dst = some d → d ∉ looksO x) := by
  unfold apartO at ha
  simp only [Bool.and_eq_true] at ha
  obtain ⟨h1, h2⟩ := ha
  refine ⟨fun d hd hm => ?_, fun d hd hy => ?_, fun d hd hm => ?_⟩
  · simp only [hd, Bool.and_eq_true, Bool.not_eq_true'] at h1
    rw [memN_iff.2 hm] at h1; exact absurd h1.1 (by simp)
  · simp only [hd, hy, Bool.and_eq_true, Bool.not_eq_true', Nat.beq_refl] at h1
    exact absurd h1.2 (by simp)
  · simp only [hd, Bool.not_eq_true'] at h2
    rw [memN_iff.2 hm] at h2; cases h2

/-- The one that but yields may come behind the other one as well. -/
theorem put_past [Glob] {o q : VO} {K : Env → VHeap → Prop} (ha : apartO o q = true) (hk : vrunOps P n K [q] (eput env o.dst v) h) : vrunOps P n (fun e s => K (eput e o.dst v) s) [q] env h := by
  obtain ⟨h1, h2, h3⟩ := apart_spec ha
  have he : ∀ t, t ∈ looksO q → eput env o.dst v t = env t := fun t ht => eput_get _ _ _ fun hd => by
    cases ho : o.dst with
    | none => rw [ho] at hd; simp at hd
    | some d => rw [ho] at hd; simp at hd; subst hd; exact h1 _ ho ht
  have hop : ∀ (K : KP), vop P n (eput env o.dst v) h K q.op = vop P n env h K q.op := fun K => vop_congr fun t ht => he t (List.mem_append_left _ ht)
  have hc : ∀ r : PV, eput (eput env o.dst v) q.dst r = eput (eput env q.dst r) o.dst v := fun r => eput_comm env v r fun x hx hy => h2 x hx hy
  simp only [vrunOps, hc, hop] at hk ⊢
  cases hg : q.guard with
  | none => simp only [hg] at hk ⊢; exact hk
  | some w =>
    obtain ⟨g, b⟩ := w
    have hgs : eput env o.dst v g = env g := he g (by simp [looksO, hg])
    simp only [hg, hgs] at hk ⊢
    exact hk

/-- What is known at each state while an order runs: an invariant of the heap; that it has not changed before the effects. -/
def asr (J : VHeap → Prop) (E : List Nat) (h0 : VHeap) (listed : List Nat) (h : VHeap) : Prop := J h ∧ ((∀ e, e ∈ E → e ∉ listed) → h = h0)
def vanyE [Glob] (P : Program) (n : Nat) (J : VHeap → Prop) (E : List Nat) (h0 : VHeap) (K : Env → VHeap → Prop) (ops : List (VO × List Nat)) : Nat → List Nat → Env → VHeap → Prop
  | 0, listed, env, h => asr J E h0 listed h ∧ vready ops listed = [] ∧ K env h
  | fuel + 1, listed, env, h => asr J E h0 listed h ∧ (vready ops listed = [] → K env h) ∧
    ∀ i q, i ∈ vready ops listed → ops[i]? = some q → vrunOps P n (vanyE P n J E h0 K ops fuel (i :: listed)) [q.1] env h

variable {J : VHeap → Prop} {E : List Nat} {h0 : VHeap} {K : Env → VHeap → Prop} {ops : List (VO × List Nat)}
theorem vanyE.asr [Glob] : ∀ {fuel : Nat} {listed : List Nat} {env : Env} {h : VHeap}, vanyE P n J E h0 K ops fuel listed env h → asr J E h0 listed h
  | 0, _, _, _, h => h.1
  | _ + 1, _, _, _, h => h.1
theorem vanyE.any [Glob] : ∀ (fuel : Nat) (listed : List Nat) (env : Env) (h : VHeap), vanyE P n J E h0 K ops fuel listed env h → vany P n K ops fuel listed env h
  | 0, _, _, _, h => h.2
  | fuel + 1, _, _, _, h => ⟨h.2.1, fun i q h1 h2 => vrunOps_mono (fun e s h => vanyE.any fuel _ e s h) _ _ _ (h.2.2 i q h1 h2)⟩
theorem vready_ext {l l' : List Nat} (hx : ∀ x, x ∈ l ↔ x ∈ l') : vready ops l = vready ops l' := by
  have hc : ∀ x, l.contains x = l'.contains x := fun x => by
    rw [Bool.eq_iff_iff, List.contains_iff_mem, List.contains_iff_mem]; exact hx x
  have : l.contains = l'.contains := funext hc
  unfold vready
  rw [this]
theorem vanyE.ext [Glob] : ∀ (fuel : Nat) {l l' : List Nat} (env : Env) (h : VHeap), (∀ x, x ∈ l ↔ x ∈ l') → vanyE P n J E h0 K ops fuel l env h → vanyE P n J E h0 K ops fuel l' env h
  | 0, l, l', _, _, hx, h => ⟨⟨h.1.1, fun he => h.1.2 fun e hh => fun hl => he e hh ((hx e).1 hl)⟩, by rw [← vready_ext hx]; exact h.2.1, h.2.2⟩
  | fuel + 1, l, l', _, _, hx, h => ⟨⟨h.1.1, fun he => h.1.2 fun e hh => fun hl => he e hh ((hx e).1 hl)⟩, fun hr => h.2.1 (by rw [vready_ext hx]; exact hr), fun i q h1 h2 =>
      vrunOps_mono (fun e s h => vanyE.ext fuel e s (fun x => by simp [hx x]) h) _ _ _ (h.2.2 i q (by rw [vready_ext hx]; exact h1) h2)⟩
/-- Behind an effect the heap is another one. -/
theorem vanyE.sw [Glob] {E' : List Nat} {h1 : VHeap} {e : Nat} (he : e ∈ E) : ∀ (fuel : Nat) (listed : List Nat) (env : Env) (h : VHeap), e ∈ listed → vanyE P n J E' h1 K ops fuel listed env h → vanyE P n J E h0 K ops fuel listed env h
  | 0, _, _, _, hl, h => ⟨⟨h.1.1, fun hh => (hh e he hl).elim⟩, h.2⟩
  | fuel + 1, _, _, _, hl, h => ⟨⟨h.1.1, fun hh => (hh e he hl).elim⟩, h.2.1, fun i q h1 h2 => vrunOps_mono (fun _ _ h => vanyE.sw he fuel _ _ _ (List.mem_cons_of_mem _ hl) h) _ _ _ (h.2.2 i q h1 h2)⟩

theorem mem_vready {l : List Nat} {i : Nat} : i ∈ vready ops l ↔ i ∉ l ∧ ∃ q, ops[i]? = some q ∧ ∀ j, j ∈ q.2 → j ∈ l := by
  unfold vready
  rw [List.mem_filter, List.mem_range]
  constructor
  · rintro ⟨h1, h2⟩
    rw [List.getElem?_eq_getElem h1] at h2 ⊢
    simp only [Option.map_some, Option.getD_some, Bool.and_eq_true, Bool.not_eq_true', List.all_eq_true] at h2
    exact ⟨fun hm => by rw [List.contains_iff_mem.2 hm] at h2; exact absurd h2.1 (by simp), _, rfl, fun j hj => List.contains_iff_mem.1 (h2.2 j hj)⟩
  · rintro ⟨h1, q, h2, h3⟩
    refine ⟨(List.getElem?_eq_some_iff.1 h2).1, ?_⟩
    rw [h2]
    simp only [Option.map_some, Option.getD_some, Bool.and_eq_true, Bool.not_eq_true', List.all_eq_true]
    exact ⟨by cases hc : l.contains i with | false => rfl | true => exact (h1 (List.contains_iff_mem.1 hc)).elim, fun j hj => List.contains_iff_mem.2 (h3 j hj)⟩

/-- Those that must have come before. -/
def anc (B : List Nat) (i : Nat) (j : Nat) : Bool := ((B[i]?).getD 0).testBit j
def shut (ops : List (VO × List Nat)) (l : List Nat) : Prop := ∀ i q, i ∈ l → ops[i]? = some q → ∀ j, j ∈ q.2 → j ∈ l
theorem fold_bits (acc : List Nat) (j : Nat) : ∀ (a : List Nat) (s : Nat), (a.foldl (fun s e => s ||| (2 ^ e ||| (acc[e]?).getD 0)) s).testBit j = true → s.testBit j = true ∨ ∃ e, e ∈ a ∧ (e = j ∨ ((acc[e]?).getD 0).testBit j = true)
  | [], _, h => .inl h
  | e :: a, s, h => by
    rw [List.foldl_cons] at h
    rcases fold_bits acc j a _ h with h | ⟨e', h1, h2⟩
    · rw [Nat.testBit_or, Nat.testBit_or, Bool.or_eq_true, Bool.or_eq_true, Nat.testBit_two_pow] at h
      rcases h with h | h | h
      · exact .inl h
      · exact .inr ⟨e, by simp, .inl (of_decide_eq_true h)⟩
      · exact .inr ⟨e, by simp, .inr h⟩
    · exact .inr ⟨e', by simp [h1], h2⟩
theorem befs_in {ops : List (VO × List Nat)} {l : List Nat} (hs : shut ops l) : ∀ (r : List (VO × List Nat)) (pre : List (VO × List Nat)) (acc : List Nat), pre ++ r = ops → acc.length = pre.length →
    (∀ i j, (i ∈ l ∨ i ∈ vready ops l) → ((acc[i]?).getD 0).testBit j = true → j ∈ l) → ∀ i j, (i ∈ l ∨ i ∈ vready ops l) → (((befs (r.map (·.2)) acc)[i]?).getD 0).testBit j = true → j ∈ l
  | [], _, _, _, _, h, i, j, hi, hj => h i j hi hj
  | q :: r, pre, acc, hp, hl, h, i, j, hi, hj => by
    refine befs_in hs r (pre ++ [q]) _ (by simpa using hp) (by simp [hl]) (fun i j hi hj => ?_) i j hi hj
    by_cases hlt : i < acc.length
    · rw [List.getElem?_append_left hlt] at hj; exact h i j hi hj
    · rw [List.getElem?_append_right (by omega)] at hj
      by_cases he : i = acc.length
      · subst he
        rw [Nat.sub_self] at hj
        simp only [List.getElem?_cons_zero, Option.getD_some] at hj
        have hq : ops[acc.length]? = some q := by rw [← hp, hl, List.getElem?_append_right (Nat.le_refl _)]; simp
        have dir : ∀ k, k ∈ q.2 → k ∈ l := fun k hk => by
          rcases hi with hi | hi
          · exact hs _ q hi hq k hk
          · have hi' := hi
            unfold vready at hi'
            have h2 := (List.mem_filter.1 hi').2
            rw [hq] at h2
            simp only [Option.map_some, Option.getD_some, Bool.and_eq_true, List.all_eq_true] at h2
            exact List.contains_iff_mem.1 (h2.2 k hk)
        rcases fold_bits acc j _ _ hj with h0 | ⟨e, h1, h2⟩
        · simp at h0
        · rcases h2 with rfl | h2
          · exact dir e h1
          · exact h e j (.inl (dir e h1)) h2
      · rw [List.getElem?_eq_none (by simp; omega)] at hj
        simp at hj
theorem anc_in {B : List Nat} {l : List Nat} (hB : befs (ops.map (·.2)) [] = B) (hs : shut ops l) (i j : Nat) (hi : i ∈ l ∨ i ∈ vready ops l) (hj : anc B i j = true) : j ∈ l := by
  subst hB
  exact befs_in hs ops [] [] rfl rfl (fun i j _ h => by simp at h) i j hi hj
theorem shut_cons {l : List Nat} {i : Nat} (hs : shut ops l) (hi : i ∈ vready ops l) : shut ops (i :: l) := by
  intro k q hk hq j hj
  rcases List.mem_cons.1 hk with rfl | hk
  · obtain ⟨_, q', h1, h2⟩ := mem_vready.1 hi
    rw [hq] at h1; cases h1
    exact List.mem_cons_of_mem _ (h2 j hj)
  · exact List.mem_cons_of_mem _ (hs k q hk hq j hj)

/-- One that but yields is taken first. -/
theorem take [Glob] {B : List Nat} (hB : befs (ops.map (·.2)) [] = B) {i : Nat} {q : VO × List Nat} (hq : ops[i]? = some q) (hap : ∀ j qj, ops[j]? = some qj → j ≠ i → anc B j i = true ∨ anc B i j = true ∨ apartO q.1 qj.1 = true) (hiE : i ∉ E) (hJ : (∀ e, e ∈ E → anc B e i = true) ∨ ∀ h, J h → YO P n q.1 env h v) :
    ∀ (fuel : Nat) (listed : List Nat) (env1 : Env) (h : VHeap), shut ops listed → i ∈ vready ops listed → (∀ t, t ∈ looksO q.1 → env1 t = env t) → YO P n q.1 env h v → ((∀ e, e ∈ E → e ∉ listed) ∨ ∀ h, J h → YO P n q.1 env h v) →
      vanyE P n J E h0 K ops fuel (i :: listed) (eput env1 q.1.dst v) h → vanyE P n J E h0 K ops (fuel + 1) listed env1 h := by
  intro fuel
  induction fuel with
  | zero =>
    intro listed env1 h hs hr he hy _ H
    obtain ⟨hni, _⟩ := mem_vready.1 hr
    refine ⟨⟨H.1.1, fun hh => H.1.2 fun e he2 => by rw [List.mem_cons, not_or]; exact ⟨fun e3 => hiE (e3 ▸ he2), hh e he2⟩⟩, fun e => by rw [e] at hr; simp at hr, fun j qj hj hqj => ?_⟩
    by_cases hji : j = i
    · subst hji; rw [hq] at hqj; cases hqj
      exact hy.congr he _ H
    · have : j ∈ vready ops (i :: listed) := by
        obtain ⟨h1, q', h2, h3⟩ := mem_vready.1 hj
        exact mem_vready.2 ⟨by rw [List.mem_cons, not_or]; exact ⟨hji, h1⟩, q', h2, fun k hk => List.mem_cons_of_mem _ (h3 k hk)⟩
      rw [H.2.1] at this; simp at this
  | succ fuel ih =>
    intro listed env1 h hs hr he hy hE H
    obtain ⟨hni, _⟩ := mem_vready.1 hr
    have has : asr J E h0 listed h := ⟨H.1.1, fun hh => H.1.2 fun e he2 => by rw [List.mem_cons, not_or]; exact ⟨fun e3 => hiE (e3 ▸ he2), hh e he2⟩⟩
    refine ⟨has, fun e => by rw [e] at hr; simp at hr, fun j qj hj hqj => ?_⟩
    by_cases hji : j = i
    · subst hji; rw [hq] at hqj; cases hqj
      exact hy.congr he _ H
    · obtain ⟨hnj, q', h2, h3⟩ := mem_vready.1 hj
      have hj2 : j ∈ vready ops (i :: listed) := mem_vready.2 ⟨by rw [List.mem_cons, not_or]; exact ⟨hji, hnj⟩, q', h2, fun k hk => List.mem_cons_of_mem _ (h3 k hk)⟩
      have hapart : apartO q.1 qj.1 = true := by
        rcases hap j qj hqj hji with h | h | h
        · exact (hni (anc_in hB hs j i (.inr hj) h)).elim
        · exact (hnj (anc_in hB hs i j (.inr hr) h)).elim
        · exact h
      have g := put_past hapart (H.2.2 j qj hj2 hqj)
      refine vrunOps_mono (fun e s hh => ?_) _ _ _ (vrunOps_wr _ _ _ g)
      obtain ⟨hw, hh⟩ := hh
      have hs2 := shut_cons hs hj
      have hr2 : i ∈ vready ops (j :: listed) := by
        obtain ⟨_, q2, k1, k2⟩ := mem_vready.1 hr
        exact mem_vready.2 ⟨by rw [List.mem_cons, not_or]; exact ⟨fun e => hji e.symm, hni⟩, q2, k1, fun k hk => List.mem_cons_of_mem _ (k2 k hk)⟩
      have he2 : ∀ t, t ∈ looksO q.1 → e t = env t := fun t ht => by
        rw [hw t (by
          simp only [List.flatMap_cons, List.flatMap_nil, List.append_nil]
          intro hd
          cases hdd : qj.1.dst with
          | none => rw [hdd] at hd; simp at hd
          | some d => rw [hdd] at hd; simp at hd; subst hd; exact (apart_spec hapart).2.2 _ hdd ht)]
        exact he t ht
      have hh' := vanyE.ext fuel _ _ (l' := i :: j :: listed) (fun x => by simp only [List.mem_cons]; constructor <;> (rintro (h | h | h) <;> simp [h])) hh
      have hsJ := hh'.asr
      by_cases hall : ∀ h, J h → YO P n q.1 env h v
      · exact ih (j :: listed) e s hs2 hr2 he2 (hall s hsJ.1) (.inr hall) hh'
      · have hEl : ∀ e, e ∈ E → e ∉ listed := hE.resolve_right hall
        have hjE : j ∉ E := fun hje => hni (anc_in hB hs j i (.inr hj) ((hJ.resolve_right hall) j hje))
        have hEl2 : ∀ e, e ∈ E → e ∉ j :: listed := fun e he => by rw [List.mem_cons, not_or]; exact ⟨fun e2 => hjE (e2 ▸ he), hEl e he⟩
        have e1 : h = h0 := has.2 hEl
        have e2 : s = h0 := hsJ.2 fun e he => by rw [List.mem_cons, not_or]; exact ⟨fun e3 => hiE (e3 ▸ he), hEl2 e he⟩
        exact ih (j :: listed) e s hs2 hr2 he2 (by rw [e2, ← e1]; exact hy) (.inl hEl2) hh'

/-- The operations in one order: 0 an effect, 1 a look, 2 one that yields whatever the heap. -/
def vseq [Glob] (P : Program) (n : Nat) (J : VHeap → Prop) (K : Env → VHeap → Prop) : List (Nat × VO) → Env → VHeap → Prop
  | [], env, h => K env h
  | (0, o) :: r, env, h => vrunOps P n (fun e s => J s ∧ vseq P n J K r e s) [o] env h
  | (1, o) :: r, env, h => ∃ v, YO P n o env h v ∧ vseq P n J K r (eput env o.dst v) h
  | (_ + 2, o) :: r, env, h => ∃ v, (∀ h, J h → YO P n o env h v) ∧ vseq P n J K r (eput env o.dst v) h
def effs (ord : List (Nat × Nat)) : List Nat := ord.filterMap fun x => cond (Nat.beq x.1 0) (some x.2) none
def okTake (ops : List (VO × List Nat)) (B : List Nat) (i : Nat) (q : VO) : Bool :=
  (List.range ops.length).all fun j => Nat.beq j i || anc B j i || anc B i j || (match ops[j]? with | some qj => apartO q qj.1 | none => true)
def okOrd (ops : List (VO × List Nat)) (B : List Nat) : List (Nat × Nat) → List Nat → Bool
  | [], l => (vready ops l).isEmpty
  | (k, i) :: r, l => (match ops[i]? with
    | some q => cond (Nat.beq k 0) (match vready ops l with | [j] => Nat.beq j i | _ => false)
        (memN (vready ops l) i && okTake ops B i q.1 && !memN (effs r) i && (!(Nat.beq k 1) || (effs r).all fun e => anc B e i))
    | none => false) && okOrd ops B r (i :: l)
def ordOps (ops : List (VO × List Nat)) (ord : List (Nat × Nat)) : List (Nat × VO) := ord.map fun x => (x.1, match ops[x.2]? with | some q => q.1 | none => default)

theorem dr_aux [Glob] {B : List Nat} (hB : befs (ops.map (·.2)) [] = B) : ∀ (ord : List (Nat × Nat)) (listed : List Nat) (env : Env) (h : VHeap), okOrd ops B ord listed = true → shut ops listed → J h → vseq P n J K (ordOps ops ord) env h → (∀ e, e ∈ effs ord → e ∉ listed) → vanyE P n J (effs ord) h K ops ord.length listed env h := by
  intro ord
  induction ord with
  | nil =>
    intro listed env h hok hs hJ hv _
    simp only [okOrd, List.isEmpty_iff] at hok
    exact ⟨⟨hJ, fun _ => rfl⟩, hok, hv⟩
  | cons x r ih =>
    obtain ⟨k, i⟩ := x
    intro listed env h hok hs hJ hv hE
    simp only [okOrd, Bool.and_eq_true] at hok
    obtain ⟨h1, hok⟩ := hok
    cases hq : ops[i]? with
    | none => rw [hq] at h1; cases h1
    | some q =>
      rw [hq] at h1
      simp only [ordOps, List.map_cons, hq] at hv
      have pure' : ∀ {k : Nat}, k ≠ 0 → memN (vready ops listed) i = true → okTake ops B i q.1 = true → (!memN (effs r) i) = true → effs ((k, i) :: r) = effs r ∧ i ∈ vready ops listed ∧ i ∉ effs r ∧
          (∀ j qj, ops[j]? = some qj → j ≠ i → anc B j i = true ∨ anc B i j = true ∨ apartO q.1 qj.1 = true) := by
        intro k hk a1 a2 a3
        refine ⟨?_, memN_iff.1 a1, fun hm => by rw [memN_iff.2 hm] at a3; simp at a3, fun j qj hqj hji => ?_⟩
        · unfold effs
          rw [List.filterMap_cons]
          have : Nat.beq k 0 = false := by cases k with | zero => exact (hk rfl).elim | succ k => rfl
          simp [this]
        · unfold okTake at a2
          rw [List.all_eq_true] at a2
          have := a2 j (List.mem_range.2 (List.getElem?_eq_some_iff.1 hqj).1)
          simp only [Bool.or_eq_true, hqj] at this
          rcases this with ((h | h) | h) | h
          · exact (hji (Nat.eq_of_beq_eq_true h)).elim
          · exact .inl h
          · exact .inr (.inl h)
          · exact .inr (.inr h)
      match k with
      | 0 =>
        simp only [Nat.beq_refl, cond_true] at h1
        have hr : vready ops listed = [i] := by
          split at h1
          · rename_i j hj; rw [hj, Nat.eq_of_beq_eq_true h1]
          · cases h1
        have hie : effs ((0, i) :: r) = i :: effs r := by simp [effs, Nat.beq_refl]
        show asr J _ h listed h ∧ (vready ops listed = [] → K env h) ∧ ∀ i q, i ∈ vready ops listed → ops[i]? = some q → vrunOps P n (vanyE P n J _ h K ops r.length (i :: listed)) [q.1] env h
        refine ⟨⟨hJ, fun _ => rfl⟩, fun e => (by rw [hr] at e; cases e), fun j qj hj hqj => ?_⟩
        rw [hr, List.mem_singleton] at hj
        subst hj
        rw [hq] at hqj; cases hqj
        have hin : j ∈ vready ops listed := by rw [hr]; simp
        refine vrunOps_mono (fun e s hh => ?_) _ _ _ hv
        have hnE : ∀ e, e ∈ effs r → e ∉ j :: listed := fun e he => by
          rw [List.mem_cons, not_or]
          refine ⟨fun e2 => ?_, hE e (by rw [hie]; exact List.mem_cons_of_mem _ he)⟩
          -- an effect is not twice in the order: it would not be ready
          subst e2
          exact absurd hok (by
            clear ih hv hE hJ hie hr hin hh
            have key : ∀ (r : List (Nat × Nat)) (l : List Nat), e ∈ l → e ∈ effs r → okOrd ops B r l ≠ true := by
              intro r
              induction r with
              | nil => intro l _ h; simp [effs] at h
              | cons x r ih =>
                obtain ⟨k, i⟩ := x
                intro l hl he hok
                simp only [okOrd, Bool.and_eq_true] at hok
                obtain ⟨g1, g2⟩ := hok
                by_cases hk : k = 0 ∧ i = e
                · obtain ⟨rfl, rfl⟩ := hk
                  cases hq : ops[i]? with
                  | none => rw [hq] at g1; cases g1
                  | some q =>
                    rw [hq] at g1
                    simp only [Nat.beq_refl, cond_true] at g1
                    split at g1
                    · rename_i j hj
                      have := Nat.eq_of_beq_eq_true g1
                      subst this
                      have : j ∈ vready ops l := by rw [hj]; simp
                      exact (mem_vready.1 this).1 hl
                    · cases g1
                · refine ih (i :: l) (List.mem_cons_of_mem _ hl) ?_ g2
                  unfold effs at he ⊢
                  rw [List.filterMap_cons] at he
                  cases hb : Nat.beq k 0 with
                  | false => simp [hb] at he; simpa using he
                  | true =>
                    simp only [hb, cond_true] at he
                    rcases List.mem_cons.1 he with h | h
                    · exact (hk ⟨Nat.eq_of_beq_eq_true hb, h.symm⟩).elim
                    · exact h
            exact key r (e :: listed) List.mem_cons_self he)
        have := ih (j :: listed) e s hok (shut_cons hs hin) hh.1 hh.2 hnE
        exact vanyE.sw (by rw [hie]; exact List.mem_cons_self) _ _ _ _ List.mem_cons_self this
      | 1 =>
        have hb : Nat.beq 1 0 = false := rfl
        simp only [hb, cond_false, Bool.and_eq_true] at h1
        obtain ⟨⟨⟨a1, a2⟩, a3⟩, a4⟩ := h1
        obtain ⟨b1, b2, b3, b4⟩ := pure' (k := 1) (by omega) a1 a2 a3
        obtain ⟨v, hy, hv⟩ := hv
        have hanc : ∀ e, e ∈ effs r → anc B e i = true := by
          simp only [Nat.beq_refl, Bool.not_true, Bool.false_or, List.all_eq_true] at a4
          exact a4
        rw [b1] at hE ⊢
        have hE2 : ∀ e, e ∈ effs r → e ∉ i :: listed := fun e he => by rw [List.mem_cons, not_or]; exact ⟨fun e2 => b3 (e2 ▸ he), hE e he⟩
        exact take (env := env) hB hq b4 b3 (.inl hanc) r.length listed env h hs b2 (fun _ _ => rfl) hy (.inl hE) (ih (i :: listed) _ h hok (shut_cons hs b2) hJ hv hE2)
      | k + 2 =>
        have hb : Nat.beq (k + 2) 0 = false := rfl
        simp only [hb, cond_false, Bool.and_eq_true] at h1
        obtain ⟨⟨⟨a1, a2⟩, a3⟩, _⟩ := h1
        obtain ⟨b1, b2, b3, b4⟩ := pure' (k := k + 2) (by omega) a1 a2 a3
        obtain ⟨v, hy, hv⟩ := hv
        rw [b1] at hE ⊢
        have hE2 : ∀ e, e ∈ effs r → e ∉ i :: listed := fun e he => by rw [List.mem_cons, not_or]; exact ⟨fun e2 => b3 (e2 ▸ he), hE e he⟩
        exact take (env := env) hB hq b4 b3 (.inr hy) r.length listed env h hs b2 (fun _ _ => rfl) (hy h hJ) (.inr hy) (ih (i :: listed) _ h hok (shut_cons hs b2) hJ hv hE2)

/-- A REGION WHOSE ORDER IS OPEN, WALKED IN ONE ORDER. -/
def okReg (ops : List (VO × List Nat)) (ord : List (Nat × Nat)) (B : List Nat) : Bool := okOrd ops B ord [] && Nat.beq ops.length ord.length
theorem dr [Glob] {B B' : List Nat} {ord' : List (Nat × Nat)} (J : VHeap → Prop) (ord : List (Nat × Nat)) {l : List (Nat × VO)} {Q : QP} (hB : befs (ops.map (·.2)) [] = B) (hok : okReg ops ord B = true) (hl : ordOps ops ord = l) (hJ : J h) (hv : vseq P n J (fun e s => Q .normal e s) l env h) : vrun P n (.dreg ops ord' B') env h Q := by
  subst hl
  show vany P n _ ops ops.length [] env h
  unfold okReg at hok
  rw [Bool.and_eq_true] at hok
  rw [Nat.eq_of_beq_eq_true hok.2]
  exact vanyE.any _ _ _ _ (dr_aux hB ord [] env h hok.1 (fun i q hi => by simp at hi) hJ hv (by simp))
end
end Go.V
