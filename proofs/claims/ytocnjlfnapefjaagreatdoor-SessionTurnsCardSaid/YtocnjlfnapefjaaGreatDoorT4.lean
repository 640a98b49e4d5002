/- Sessions: what they are, in plain terms, and where they lie. -/
import Derived.Test.YtocnjlfnapefjaaGreatDoorA1
import Derived.Test.YtocnjlfnapefjaaGreatDoorT3
namespace Go.Proofs.YtocnjlfnapefjaaGreatDoor
open Go Go.V
set_option maxRecDepth 10000
set_option linter.unusedVariables false
attribute [local irreducible] vBuild vCallV
structure Ses where
  p : Pr
  st : Int
  stopped : Bool
  oid : Ad
  hold : Int
  dial : Bool
  close : Bool
  up : Bool
  down : Bool
  m : TM
  fams : List Fm
  send : List Ms
/-- With other timers; in another state. -/
@[reducible] def Ses.sM (S : Ses) (M : TM) : Ses := { S with m := M }
@[reducible] def Ses.sSt (S : Ses) (v : Int) : Ses := { S with st := v }
def Ses.c (S : Ses) (tm : Nat) (fv sv : RV) : Sc := ⟨S.p, S.st, S.stopped, tm, S.oid, S.hold, fv, sv, S.dial, S.close, S.up, S.down⟩
/-- A row in a cell, and where it lies. -/
def RowAt (σ : VHeap) (O : List Nat) (sz : Nat) (es : List (List PV)) : RV → Prop
  | .nil => es = []
  | .row id g => id ∈ O ∧ ∃ fz, vGet σ id g = some (.row sz es fz)
structure SesAt (σ : VHeap) (O : List Nat) (b : Nat) (S : Ses) (tm mid : Nat) (fv sv : RV) : Prop where
  box : vGet σ b 1 = some (.box (scC (S.c tm fv sv)) false)
  pk : okPr S.p
  ok : okD S.oid
  t : Tm σ tm 1 mid 1 S.m
  fr : RowAt σ O 2 (S.fams.map fmC) fv
  sr : RowAt σ O 53 (S.send.map msC) sv
  sk : ∀ m, m ∈ S.send → okMs m
  fn : S.fams = [] → fv = .nil
  bO : b ∈ O
  tO : tm ∈ O
  mO : mid ∈ O
  lt : ∀ i, i ∈ O → i < σ.length
def At (σ : VHeap) (O : List Nat) (b : Nat) (S : Ses) : Prop := ∃ tm mid fv sv, SesAt σ O b S tm mid fv sv
/-- What a call may do to the heap: it changes what belongs to one, and makes what is new. -/
structure Stp (σ : VHeap) (O : List Nat) (σ' : VHeap) (O' : List Nat) : Prop where
  k : Keep O σ σ'
  g : ∀ i, i ∈ O' → i ∈ O ∨ σ.length ≤ i
  s : ∀ i, i ∈ O → i ∈ O'
theorem Stp.refl (σ : VHeap) (O : List Nat) : Stp σ O σ O := ⟨Keep.refl _ _, fun _ h => .inl h, fun _ h => h⟩
theorem Stp.trans {a b c : VHeap} {O P Q : List Nat} (h : Stp a O b P) (k : Stp b P c Q) : Stp a O c Q :=
  ⟨⟨Nat.le_trans h.k.1 k.k.1, fun i hi hn => by
    rw [k.k.2 i (by have := h.k.1; omega) (fun hm => by rcases h.g i hm with h1 | h1; exact hn h1; omega), h.k.2 i hi hn]⟩,
   fun i hm => by
    rcases k.g i hm with h1 | h1
    · exact h.g i h1
    · exact .inr (Nat.le_trans h.k.1 h1), fun i hi => k.s i (h.s i hi)⟩
theorem Stp.of {a b : VHeap} {O l : List Nat} (h : Keep l a b) (k : ∀ i, i ∈ l → i ∈ O) : Stp a O b O :=
  ⟨h.mono fun i hi => .inl (k i hi), fun _ h => .inl h, fun _ h => h⟩
theorem Stp.app {a b : VHeap} {O P : List Nat} (h : Stp a O b P) (τ : VHeap) : Stp a O (b ++ τ) P := ⟨h.k.app τ, h.g, h.s⟩
theorem RowAt.keep {σ σ' : VHeap} {O O' l : List Nat} {sz : Nat} {es : List (List PV)} {v : RV} (h : RowAt σ O sz es v) (k : Keep l σ σ') (hd : ∀ i, i ∈ O → i ∉ l) (hs : ∀ i, i ∈ O → i ∈ O') : RowAt σ' O' sz es v := by
  cases v with
  | nil => exact h
  | row id g => obtain ⟨hm, fz, hg⟩ := h; exact ⟨hs id hm, fz, k.get hg (hd id hm)⟩
theorem RowAt.set {σ : VHeap} {O : List Nat} {sz : Nat} {es : List (List PV)} {v : RV} {b : Nat} {x : Nat × VObj} {cs : List PV} (h : RowAt σ O sz es v) (hb : vGet σ b 1 = some (.box cs false)) : RowAt (σ.set b x) O sz es v := by
  cases v with
  | nil => exact h
  | row id g =>
    obtain ⟨hm, fz, hg⟩ := h
    refine ⟨hm, fz, hget_ne ?_ hg⟩
    rintro rfl
    have h1 := vGet_some hb
    have h2 := vGet_some hg
    rw [h1] at h2; cases h2
theorem cut_pre {X B : List PV} {o : Nat} {v : PV} (h : cut X o none = some v) : cut (X ++ B) o none = some v := by
  simp only [cut] at h ⊢
  rw [List.getElem?_append_left (List.getElem?_eq_some_iff.1 h).1]; exact h
theorem cut_preN {X B : List PV} {o n : Nat} {v : PV} (h : cut X o (some n) = some v) : cut (X ++ B) o (some n) = some v := by
  simp only [cut] at h ⊢
  split at h
  · rename_i hl
    rw [if_pos (by rw [List.length_append]; omega), List.drop_append_of_le_length (by omega), List.take_append_of_le_length (by rw [List.length_drop]; omega)]; exact h
  · cases h
section
variable {σ σ' : VHeap} {O O' l : List Nat} {b : Nat} {S S' : Ses} {tm mid : Nat} {fv sv fv' sv' : RV}
theorem SesAt.okc (h : SesAt σ O b S tm mid fv sv) : okSc (S.c tm fv sv) := ⟨h.pk, h.ok⟩
theorem SesAt.keep (h : SesAt σ O b S tm mid fv sv) (k : Keep l σ σ') (hd : ∀ i, i ∈ O → i ∉ l) : SesAt σ' O b S tm mid fv sv :=
  ⟨k.get h.box (hd b h.bO), h.pk, h.ok, ⟨h.t.ne, k.get h.t.box (hd _ h.tO), let ⟨ts, c, h1, h2⟩ := h.t.map; ⟨ts, c, k.get h1 (hd _ h.mO), h2⟩⟩, h.fr.keep k hd fun _ h => h, h.sr.keep k hd fun _ h => h, h.sk, h.fn, h.bO, h.tO, h.mO, fun i hi => by have := h.lt i hi; have := k.1; omega⟩
theorem SesAt.bt (h : SesAt σ O b S tm mid fv sv) : b ≠ tm := by
  rintro rfl
  have h1 := vGet_some h.box
  rw [vGet_some h.t.box] at h1
  simp only [Option.some.injEq, Prod.mk.injEq, VObj.box.injEq, true_and, and_true] at h1
  have := scC_len h.okc
  rw [← h1] at this; simp at this
theorem SesAt.bm (h : SesAt σ O b S tm mid fv sv) : b ≠ mid := by
  rintro rfl
  obtain ⟨ts, c, h1, _⟩ := h.t.map
  have h2 := vGet_some h.box
  rw [vGet_some h1] at h2; cases h2
/-- Its cells are written. -/
theorem SesAt.put (h : SesAt σ O b S tm mid fv sv) (S' : Ses) (fv' sv' : RV) (hm : S'.m = S.m) (pk : okPr S'.p) (ok : okD S'.oid) (hf : RowAt σ O 2 (S'.fams.map fmC) fv') (hs : RowAt σ O 53 (S'.send.map msC) sv') (hk : ∀ m, m ∈ S'.send → okMs m) (hn : S'.fams = [] → fv' = .nil) :
    SesAt (σ.set b (1, .box (scC (S'.c tm fv' sv')) false)) O b S' tm mid fv' sv' := by
  refine ⟨hget_eq (vGet_lt h.box), pk, ok, ?_, hf.set h.box, hs.set h.box, hk, hn, h.bO, h.tO, h.mO, fun i hi => by rw [List.length_set]; exact h.lt i hi⟩
  rw [hm]
  exact ⟨h.t.ne, hget_ne h.bt h.t.box, let ⟨ts, c, h1, h2⟩ := h.t.map; ⟨ts, c, hget_ne h.bm h1, h2⟩⟩
/-- Its timers turned. -/
theorem SesAt.tmr (h : SesAt σ O b S tm mid fv sv) {M : TM} (k : Keep [mid] σ σ') (t : Tm σ' tm 1 mid 1 M) : SesAt σ' O b (S.sM M) tm mid fv sv := by
  have hr : ∀ {sz es v}, RowAt σ O sz es v → RowAt σ' O sz es v := by
    intro sz es v hv
    cases v with
    | nil => exact hv
    | row id g =>
      obtain ⟨hm, fz, hg⟩ := hv
      refine ⟨hm, fz, k.get hg ?_⟩
      intro he
      rw [List.mem_singleton] at he
      subst he
      obtain ⟨ts, c, h1, _⟩ := h.t.map
      have h2 := vGet_some hg
      rw [vGet_some h1] at h2; cases h2
  exact ⟨k.get h.box (by simp [h.bm]), h.pk, h.ok, t, hr h.fr, hr h.sr, h.sk, h.fn, h.bO, h.tO, h.mO, fun i hi => by have := h.lt i hi; have := k.1; omega⟩
/-- The heap grew; more belongs to it. -/
theorem SesAt.wide (h : SesAt σ O b S tm mid fv sv) (k : Keep [] σ σ') (hs : ∀ i, i ∈ O → i ∈ O') (hlt : ∀ i, i ∈ O' → i < σ'.length) : SesAt σ' O' b S tm mid fv sv :=
  ⟨k.get h.box (by simp), h.pk, h.ok, ⟨h.t.ne, k.get h.t.box (by simp), let ⟨ts, c, h1, h2⟩ := h.t.map; ⟨ts, c, k.get h1 (by simp), h2⟩⟩, h.fr.keep k (by simp) hs, h.sr.keep k (by simp) hs, h.sk, h.fn, hs b h.bO, hs tm h.tO, hs mid h.mO, hlt⟩
/-- One of its rows is another one; its cells are written. -/
theorem SesAt.row (h : SesAt σ O b S tm mid fv sv) (S' : Ses) (fv' sv' : RV) {id g sz : Nat} {es es' : List (List PV)} {fz : Bool} (hO : id ∈ O) (hg : vGet σ id g = some (.row sz es fz)) (hm : S'.m = S.m) (pk : okPr S'.p) (ok : okD S'.oid)
    (hf : RowAt (σ.set id (g + 1, .row sz es' fz)) O 2 (S'.fams.map fmC) fv') (hs : RowAt (σ.set id (g + 1, .row sz es' fz)) O 53 (S'.send.map msC) sv') (hk : ∀ m, m ∈ S'.send → okMs m) (hn : S'.fams = [] → fv' = .nil) :
    SesAt ((σ.set id (g + 1, .row sz es' fz)).set b (1, .box (scC (S'.c tm fv' sv')) false)) O b S' tm mid fv' sv' := by
  have hg' := vGet_some hg
  have n1 : id ≠ b := by rintro rfl; rw [vGet_some h.box] at hg'; cases hg'
  have n2 : id ≠ tm := by rintro rfl; rw [vGet_some h.t.box] at hg'; cases hg'
  have n3 : id ≠ mid := by
    obtain ⟨ts, c, h1, _⟩ := h.t.map
    rintro rfl; rw [vGet_some h1] at hg'; cases hg'
  have hb := hget_ne (x := (g + 1, VObj.row sz es' fz)) n1 h.box
  refine ⟨hget_eq (by rw [List.length_set]; exact vGet_lt h.box), pk, ok, ?_, hf.set hb, hs.set hb, hk, hn, h.bO, h.tO, h.mO, fun i hi => by rw [List.length_set, List.length_set]; exact h.lt i hi⟩
  rw [hm]
  exact ⟨h.t.ne, hget_ne h.bt (hget_ne n2 h.t.box), let ⟨ts, c, h1, h2⟩ := h.t.map; ⟨ts, c, hget_ne h.bm (hget_ne n3 h1), h2⟩⟩
theorem RowAt.other {sz sz' : Nat} {es : List (List PV)} {v : RV} {id g : Nat} {es0 : List (List PV)} {fz : Bool} {x : Nat × VObj} (h : RowAt σ O sz es v) (hg : vGet σ id g = some (.row sz' es0 fz)) (hne : sz ≠ sz') : RowAt (σ.set id x) O sz es v := by
  cases v with
  | nil => exact h
  | row i g' =>
    obtain ⟨hm, fz', h1⟩ := h
    refine ⟨hm, fz', hget_ne ?_ h1⟩
    rintro rfl
    have h2 := vGet_some h1
    rw [vGet_some hg] at h2; cases h2
    exact hne rfl
theorem SesAt.stp (h : SesAt σ O b S tm mid fv sv) (k : Keep [mid] σ σ') : Stp σ O σ' O := .of k fun i hi => by rw [List.mem_singleton.1 hi]; exact h.mO
theorem SesAt.stpB (h : SesAt σ O b S tm mid fv sv) (x : Nat × VObj) : Stp σ O (σ.set b x) O := .of (l := [b]) ((Keep.refl _ _).set (.inl (by simp))) fun i hi => by rw [List.mem_singleton.1 hi]; exact h.bO
end
/-- Look-ups in the older part. -/
theorem oget_inv {σ L : VHeap} {id g : Nat} {o : VObj} (h : vGet (σ ++ L) id g = some o) (k : id < σ.length) : vGet σ id g = some o := by
  have h := vGet_some h
  rw [List.getElem?_append_left k] at h
  exact vGet_of h
/-- What belongs to one lies outside a call's own part. -/
def Out (O : List Nat) (n k : Nat) : Prop := ∀ i, i ∈ O → i < n ∨ n + k ≤ i
theorem Stp.split {σ L X h' : VHeap} {O O' : List Nat} (h : Stp (σ ++ (L ++ X)) O h' O') (hl : Out O σ.length L.length) : ∃ σ' X', h' = σ' ++ (L ++ X') ∧ σ'.length = σ.length ∧ Out O' σ'.length L.length := by
  obtain ⟨σ', X', h1, h2⟩ := h.k.splitX hl
  refine ⟨σ', X', h1, h2, fun i hi => ?_⟩
  rw [h2]
  rcases h.g i hi with h3 | h3
  · exact hl i h3
  · rw [List.length_append, List.length_append] at h3; exact .inr (by omega)
theorem SesAt.out {σ : VHeap} {O : List Nat} {b : Nat} {S : Ses} {tm mid : Nat} {fv sv : RV} (h : SesAt σ O b S tm mid fv sv) (k : Nat) : Out O σ.length k := fun i hi => .inl (h.lt i hi)
/-- The own part turned. -/
theorem SesAt.loc {σ L L' X : VHeap} {O : List Nat} {b : Nat} {S : Ses} {tm mid : Nat} {fv sv : RV} (h : SesAt (σ ++ (L ++ X)) O b S tm mid fv sv) (hn : L'.length = L.length) (ho : Out O σ.length L.length) : SesAt (σ ++ (L' ++ X)) O b S tm mid fv sv := by
  refine h.keep (l := (List.range L.length).map (σ.length + ·)) ⟨by simp [hn], fun i hi hm => ?_⟩ fun i hi hm => ?_
  · by_cases h1 : i < σ.length
    · rw [List.getElem?_append_left h1, List.getElem?_append_left h1]
    · have h2 : σ.length + L.length ≤ i := by
        rcases Nat.lt_or_ge i (σ.length + L.length) with h3 | h3
        · exact (hm (List.mem_map.2 ⟨i - σ.length, List.mem_range.2 (by omega), by omega⟩)).elim
        · exact h3
      rw [List.getElem?_append_right (by omega), List.getElem?_append_right (by omega), List.getElem?_append_right (by omega), List.getElem?_append_right (by omega), hn]
  · obtain ⟨j, hj, rfl⟩ := List.mem_map.1 hm
    have := List.mem_range.1 hj
    rcases ho _ hi with h3 | h3 <;> omega
theorem Stp.loc {σ σ' L L' X : VHeap} {O O' : List Nat} (h : Stp σ O (σ' ++ (L ++ X)) O') (hl : σ.length = σ'.length) (hn : L'.length = L.length) : Stp σ O (σ' ++ (L' ++ X)) O' := by
  refine ⟨⟨?_, fun i hi hm => ?_⟩, h.g, h.s⟩
  · have := h.k.1; simp only [List.length_append] at this ⊢; omega
  · rw [← h.k.2 i hi hm, List.getElem?_append_left (by omega), List.getElem?_append_left (by omega)]
theorem SesAt.big {σ : VHeap} {O : List Nat} {b : Nat} {S : Ses} {tm mid : Nat} {fv sv : RV} (h : SesAt σ O b S tm mid fv sv) (τ : VHeap) : SesAt (σ ++ τ) O b S tm mid fv sv := h.wide ((Keep.refl _ _).app _) (fun i hi => hi) fun i hi => by rw [List.length_append]; have := h.lt i hi; omega
theorem Stp.big (σ : VHeap) (O : List Nat) (τ : VHeap) : Stp σ O (σ ++ τ) O := ⟨(Keep.refl _ _).app _, fun _ h => .inl h, fun _ h => h⟩
end Go.Proofs.YtocnjlfnapefjaaGreatDoor
