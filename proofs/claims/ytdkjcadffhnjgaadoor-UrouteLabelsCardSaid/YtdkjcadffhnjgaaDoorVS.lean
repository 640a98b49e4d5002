/- The steps of a walk over a heap of which the last part is the call's own. -/
import Derived.Test.YtdkjcadffhnjgaaDoorVM
namespace Go.V
open Go

/-! ### Values that a call boundary leaves as they are; values that lead nowhere. -/
class Pl (c : PV) : Prop where
  pl : (∀ σ, inl σ c = c) ∧ refs c = []
class PlL (cs : List PV) : Prop where
  pl : (∀ σ, inlL σ cs = cs) ∧ refsL cs = []
class Cl (c : PV) : Prop where
  cl : ∀ n, bel n c
class ClL (cs : List PV) : Prop where
  cl : ∀ n, belL n cs
class ClLL (es : List (List PV)) : Prop where
  cl : ∀ n, belLL n es
instance (b : Bool) : Pl (.bool b) := ⟨fun _ => rfl, rfl⟩
instance (k : IntKind) (i : Int) : Pl (.int k i) := ⟨fun _ => rfl, rfl⟩
instance (s : List UInt8) : Pl (.str s) := ⟨fun _ => rfl, rfl⟩
instance : Pl .nilp := ⟨fun _ => rfl, rfl⟩
instance : Pl .nilm := ⟨fun _ => rfl, rfl⟩
instance : Pl .undef := ⟨fun _ => rfl, rfl⟩
instance (a b c : Nat) : Pl (.ptr a b c) := ⟨fun _ => rfl, rfl⟩
instance (a b c d : Nat) : Pl (.rptr a b c d) := ⟨fun _ => rfl, rfl⟩
instance (a : List PV) (b : Nat) : Pl (.iptr a b) := ⟨fun _ => rfl, rfl⟩
instance (es : List (List PV)) : Pl (.sl es) := ⟨fun _ => rfl, rfl⟩
instance (a b : Nat) : Pl (.map a b) := ⟨fun _ => rfl, rfl⟩
instance (a b : Nat) : Pl (.iter a b) := ⟨fun _ => rfl, rfl⟩
instance (f : FuncId) (c : List PV) : Pl (.fn f c) := ⟨fun _ => rfl, rfl⟩
instance (cs : List PV) [h : PlL cs] : Pl (.agg cs) := ⟨fun σ => by rw [inl, h.pl.1], by rw [refs]; exact h.pl.2⟩
instance (cs : List PV) [h : PlL cs] : Pl (.tup cs) := ⟨fun σ => by rw [inl, h.pl.1], by rw [refs]; exact h.pl.2⟩
instance : PlL [] := ⟨fun _ => rfl, rfl⟩
instance (c : PV) (cs : List PV) [h : Pl c] [k : PlL cs] : PlL (c :: cs) := ⟨fun σ => by rw [inlL, h.pl.1, k.pl.1], by rw [refsL, h.pl.2, k.pl.2]; rfl⟩
theorem plL_iff {cs : List PV} (h : ∀ c, c ∈ cs → Pl c) : PlL cs := by
  induction cs with
  | nil => infer_instance
  | cons c cs ih =>
    have := h c (by simp)
    have := ih fun c hc => h c (by simp [hc])
    infer_instance
instance (a b : List PV) [h : PlL a] [k : PlL b] : PlL (a ++ b) := ⟨fun σ => by rw [inlL_eq, List.map_append, ← inlL_eq, ← inlL_eq, h.pl.1, k.pl.1], by rw [refsL_eq, List.flatMap_append, ← refsL_eq, ← refsL_eq, h.pl.2, k.pl.2]; rfl⟩
instance {α : Type} (l : List α) (f : α → PV) [h : ∀ x, Pl (f x)] : PlL (l.map f) := plL_iff fun c hc => by obtain ⟨x, _, rfl⟩ := List.mem_map.1 hc; exact h x
instance (k : Nat) (c : PV) [h : Pl c] : PlL (List.replicate k c) := plL_iff fun x hx => by rw [(List.mem_replicate.1 hx).2]; exact h
instance (b : Bool) : Cl (.bool b) := ⟨fun _ => trivial⟩
instance (k : IntKind) (i : Int) : Cl (.int k i) := ⟨fun _ => trivial⟩
instance (s : List UInt8) : Cl (.str s) := ⟨fun _ => trivial⟩
instance : Cl .nilp := ⟨fun _ => trivial⟩
instance : Cl .nilm := ⟨fun _ => trivial⟩
instance : Cl .nils := ⟨fun _ => trivial⟩
instance : Cl .undef := ⟨fun _ => trivial⟩
instance (es : List (List PV)) [h : ClLL es] : Cl (.sl es) := ⟨fun n => h.cl n⟩
instance (cs : List PV) (k : Nat) [h : ClL cs] : Cl (.iptr cs k) := ⟨fun n => h.cl n⟩
instance (cs : List PV) [h : ClL cs] : Cl (.agg cs) := ⟨fun n => h.cl n⟩
instance (cs : List PV) [h : ClL cs] : Cl (.tup cs) := ⟨fun n => h.cl n⟩
instance : ClL [] := ⟨fun _ => trivial⟩
instance (c : PV) (cs : List PV) [h : Cl c] [k : ClL cs] : ClL (c :: cs) := ⟨fun n => ⟨h.cl n, k.cl n⟩⟩
theorem clL_iff {cs : List PV} (h : ∀ c, c ∈ cs → Cl c) : ClL cs := ⟨fun n => belL_iff.2 fun c hc => (h c hc).cl n⟩
instance (a b : List PV) [h : ClL a] [k : ClL b] : ClL (a ++ b) := ⟨fun n => belL_iff.2 fun c hc => by
  rcases List.mem_append.1 hc with hc | hc
  · exact belL_iff.1 (h.cl n) c hc
  · exact belL_iff.1 (k.cl n) c hc⟩
instance {α : Type} (l : List α) (f : α → PV) [h : ∀ x, Cl (f x)] : ClL (l.map f) := clL_iff fun c hc => by obtain ⟨x, _, rfl⟩ := List.mem_map.1 hc; exact h x
instance (k : Nat) (c : PV) [h : Cl c] : ClL (List.replicate k c) := clL_iff fun x hx => by rw [(List.mem_replicate.1 hx).2]; exact h
instance : ClLL [] := ⟨fun _ => trivial⟩
instance (c : List PV) (cs : List (List PV)) [h : ClL c] [k : ClLL cs] : ClLL (c :: cs) := ⟨fun n => ⟨h.cl n, k.cl n⟩⟩
theorem clLL_iff {cs : List (List PV)} (h : ∀ c, c ∈ cs → ClL c) : ClLL cs := ⟨fun n => belLL_iff.2 fun c hc => (h c hc).cl n⟩
instance (a b : List (List PV)) [h : ClLL a] [k : ClLL b] : ClLL (a ++ b) := ⟨fun n => belLL_iff.2 fun c hc => by
  rcases List.mem_append.1 hc with hc | hc
  · exact belLL_iff.1 (h.cl n) c hc
  · exact belLL_iff.1 (k.cl n) c hc⟩
instance {α : Type} (l : List α) (f : α → List PV) [h : ∀ x, ClL (f x)] : ClLL (l.map f) := clLL_iff fun c hc => by obtain ⟨x, _, rfl⟩ := List.mem_map.1 hc; exact h x
instance (k : Nat) (c : List PV) [h : ClL c] : ClLL (List.replicate k c) := clLL_iff fun x hx => by rw [(List.mem_replicate.1 hx).2]; exact h

/-! ### Lengths, pieces and sums of rows, in a form that is read easily. -/
class SLen (es : List (List PV)) (m : outParam Nat) : Prop where
  len : es.length = m
class SCut (es : List (List PV)) (l k : Nat) (r : outParam (List (List PV))) : Prop where
  cut : (es.drop l).take k = r
class SApp (a b : List (List PV)) (r : outParam (List (List PV))) : Prop where
  app : a ++ b = r
instance (priority := low) (es : List (List PV)) : SLen es es.length := ⟨rfl⟩
instance : SLen [] 0 := ⟨rfl⟩
instance {α : Type} (l : List α) (f : α → List PV) : SLen (l.map f) l.length := ⟨by simp⟩
instance (priority := low) (es : List (List PV)) (l k : Nat) : SCut es l k ((es.drop l).take k) := ⟨rfl⟩
instance {α : Type} (l : List α) (f : α → List PV) (a k : Nat) : SCut (l.map f) a k (((l.drop a).take k).map f) := ⟨by simp [List.map_drop, List.map_take]⟩
instance (priority := high) {α : Type} (l : List α) (f : α → List PV) (k : Nat) : SCut (l.map f) 0 (k - 0) ((l.take k).map f) := ⟨by simp [List.map_take]⟩
instance (priority := high) {α : Type} (l : List α) (f : α → List PV) (a : Nat) : SCut (l.map f) a (l.length - a) ((l.drop a).map f) := ⟨by rw [List.map_drop, List.take_of_length_le]; simp⟩
instance (priority := high + 1) {α : Type} (l : List α) (f : α → List PV) : SCut (l.map f) 0 (l.length - 0) (l.map f) := ⟨by simp [List.take_of_length_le]⟩
instance (es : List (List PV)) : SCut es 0 (es.length - 0) es := ⟨by simp⟩
/-- A piece of cells as a row. -/
class VCut (cs : List PV) (off len : Nat) (r : outParam (List (List PV))) : Prop where
  cut : ((cs.drop off).take len).map (fun c => [c]) = r
instance (priority := low) (cs : List PV) (off len : Nat) : VCut cs off len (((cs.drop off).take len).map fun c => [c]) := ⟨rfl⟩
instance (priority := low) (a b : List (List PV)) : SApp a b (a ++ b) := ⟨rfl⟩
instance (b : List (List PV)) : SApp [] b b := ⟨rfl⟩
instance (b : List (List PV)) : SApp b [] b := ⟨by simp⟩
instance {α : Type} (a b : List α) (f : α → List PV) : SApp (a.map f) (b.map f) ((a ++ b).map f) := ⟨by simp⟩
instance {α : Type} (a : List α) (x : α) (f : α → List PV) : SApp (a.map f) [f x] ((a ++ [x]).map f) := ⟨by simp⟩

/-! ### The call's own part of the heap. -/
section
variable {σ L : VHeap} {n : Nat}
theorem vGet_of {σ : VHeap} {id g : Nat} {o : VObj} (h : σ[id]? = some (g, o)) : vGet σ id g = some o := by unfold vGet; rw [h]; simp
theorem lraw (hn : σ.length = n) {k : Nat} {x : Nat × VObj} (h : L[k]? = some x) : (σ ++ L)[n + k]? = some x := by
  rw [List.getElem?_append_right (by omega), hn, Nat.add_sub_cancel_left]; exact h
theorem lget (hn : σ.length = n) {k g : Nat} {o : VObj} (h : vGet L k g = some o) : vGet (σ ++ L) (n + k) g = some o := vGet_of (lraw hn (vGet_some h))
theorem lset (hn : σ.length = n) (k : Nat) (x : Nat × VObj) : (σ ++ L).set (n + k) x = σ ++ L.set k x := by
  rw [List.set_append_right _ _ (by omega), hn, Nat.add_sub_cancel_left]
theorem oget {id g : Nat} {o : VObj} (h : vGet σ id g = some o) : vGet (σ ++ L) id g = some o := by
  have h := vGet_some h
  exact vGet_of (by rw [List.getElem?_append_left (List.getElem?_eq_some_iff.1 h).1]; exact h)
theorem vGet_lt {σ : VHeap} {id g : Nat} {o : VObj} (h : vGet σ id g = some o) : id < σ.length := (List.getElem?_eq_some_iff.1 (vGet_some h)).1
theorem oset {id : Nat} (x : Nat × VObj) (h : id < σ.length) : (σ ++ L).set id x = σ.set id x ++ L := List.set_append_left _ _ h
theorem hget_ne {σ : VHeap} {i j g : Nat} {x : Nat × VObj} {o : Option VObj} (h : i ≠ j) (k : vGet σ j g = o) : vGet (σ.set i x) j g = o := by
  unfold vGet at *; rw [List.getElem?_set_ne h]; exact k
theorem hget_eq {σ : VHeap} {i g : Nat} {o : VObj} (h : i < σ.length) : vGet (σ.set i (g, o)) i g = some o := vGet_of (List.getElem?_set_self h)
theorem belH_set {σ : VHeap} {n id : Nat} {x : Nat × VObj} (h : belH n σ) (k : belO n x.2) : belH n (σ.set id x) := by
  intro y hy
  rcases List.mem_or_eq_of_mem_set hy with h1 | h1
  · exact h y h1
  · rw [h1]; exact k
end

/-- What becomes of values that go over a call boundary, and of the call's own memory. -/
inductive InlA (n : Nat) (L0 : VHeap) : VHeap → List PV → List PV → VHeap → Prop
  | nil (L : VHeap) : InlA n L0 L [] [] L
  | pl {L L' : VHeap} {c : PV} {cs vs : List PV} (h : Pl c) (k : InlA n L0 L cs vs L') : InlA n L0 L (c :: cs) (c :: vs) L'
  | nils {L L' : VHeap} {cs vs : List PV} (k : InlA n L0 L cs vs L') : InlA n L0 L (.nils :: cs) (.sl [] :: vs) L'
  | row {L L1 L' : VHeap} {i g sz : Nat} {es : List (List PV)} {fz : Bool} {cs vs : List PV} (h : vGet L0 i g = some (.row sz es fz)) (e : frzId L i = L1) (k : InlA n L0 L1 cs vs L') : InlA n L0 L (.row (n + i) g :: cs) (.sl es :: vs) L'
  | bview {L L1 L' : VHeap} {i g off len : Nat} {bs : List PV} {q : List (List PV)} {fz : Bool} {cs vs : List PV} (h : vGet L0 i g = some (.box bs fz)) (hq : VCut bs off len q) (e : frzId L i = L1) (k : InlA n L0 L1 cs vs L') :
      InlA n L0 L (.bview (n + i) g off len :: cs) (.sl q :: vs) L'
  | rview {L L1 L' : VHeap} {i g lo len sz : Nat} {es : List (List PV)} {fz : Bool} {cs vs : List PV} (h : vGet L0 i g = some (.row sz es fz)) (e : frzId L i = L1) (k : InlA n L0 L1 cs vs L') :
      InlA n L0 L (.rview (n + i) g lo len :: cs) (.sl ((es.drop lo).take len) :: vs) L'
  | agg {L L1 L' : VHeap} {as us cs vs : List PV} (h : InlA n L0 L as us L1) (k : InlA n L0 L1 cs vs L') : InlA n L0 L (.agg as :: cs) (.agg us :: vs) L'

section
variable {σ L : VHeap} {n : Nat}
theorem frzId_part (hn : σ.length = n) (i : Nat) : frzId (σ ++ L) (n + i) = σ ++ frzId L i := by
  unfold frzId
  have : (σ ++ L)[n + i]? = L[i]? := by rw [List.getElem?_append_right (by omega), hn, Nat.add_sub_cancel_left]
  rw [this]
  split <;> first | rfl | exact lset hn _ _
theorem InlA.ok {L0 L' : VHeap} {args vs : List PV} (hn : σ.length = n) (h : InlA n L0 L args vs L') : inlL (σ ++ L0) args = vs ∧ frzIds (σ ++ L) (refsL args) = σ ++ L' := by
  induction h with
  | nil L => exact ⟨rfl, rfl⟩
  | pl h _ ih => exact ⟨by rw [inlL, h.pl.1, ih.1], by rw [refsL, h.pl.2]; exact ih.2⟩
  | nils _ ih => exact ⟨by rw [inlL, ih.1]; rfl, by rw [refsL]; exact ih.2⟩
  | row h e _ ih =>
    refine ⟨?_, ?_⟩
    · rw [inlL, ih.1, inl, lraw hn (vGet_some h)]; simp
    · rw [refsL, refs, List.singleton_append, frzIds, List.foldl_cons, frzId_part hn, e]; exact ih.2
  | bview h hq e _ ih =>
    have hq := hq.cut
    subst hq
    refine ⟨?_, ?_⟩
    · rw [inlL, ih.1, inl, lraw hn (vGet_some h)]; simp
    · rw [refsL, refs, List.singleton_append, frzIds, List.foldl_cons, frzId_part hn, e]; exact ih.2
  | rview h e _ ih =>
    refine ⟨?_, ?_⟩
    · rw [inlL, ih.1, inl, lraw hn (vGet_some h)]; simp
    · rw [refsL, refs, List.singleton_append, frzIds, List.foldl_cons, frzId_part hn, e]; exact ih.2
  | agg _ _ ih1 ih2 =>
    refine ⟨by rw [inlL, inl, ih1.1, ih2.1], ?_⟩
    rw [refsL, refs, frzIds, List.foldl_append]
    have := ih1.2
    unfold frzIds at this
    rw [this]; exact ih2.2
end

/-! ### Steps. -/
section
variable {env : Env} {h : VHeap} {Q : QP}
theorem sq_thenN {N : Env → VHeap → Prop} (k : N env h) : QP.then Q N .normal env h := k
theorem sq_thenR {N : Env → VHeap → Prop} (k : Q .ret env h) : QP.then Q N .ret env h := k
theorem sq_thenX {N : Env → VHeap → Prop} {id : Nat} (k : Q (.exit id) env h) : QP.then Q N (.exit id) env h := k
theorem sq_blockN {id : Nat} (k : Q .normal env h) : QP.block Q id .normal env h := k
theorem sq_blockR {id : Nat} (k : Q .ret env h) : QP.block Q id .ret env h := k
theorem sq_blockX {id : Nat} (k : Q .normal env h) : QP.block Q id (.exit id) env h := by simp only [QP.block, if_true]; exact k
theorem sq_blockY {id id' : Nat} (hne : id' ≠ id) (k : Q (.exit id') env h) : QP.block Q id (.exit id') env h := by simp only [QP.block, if_neg hne]; exact k
end
def Y [Glob] (P : Program) (n : Nat) (op : VOp) (env : Env) (h : VHeap) (v : PV) : Prop := ∀ K : KP, K v h → vop P n env h K op
section
variable {P : Program} [Glob] {n : Nat} {K : Env → VHeap → Prop} {r : List VO} {d : Option Nat} {env : Env} {σ L h : VHeap} {v : PV}

theorem yn {op : VOp} (y : Y P n op env h v) : YO P n ⟨d, op, none⟩ env h v := fun _ hk => y _ hk
theorem yt {op : VOp} {s : Nat} {b : Bool} (hg : env s = .bool b) (y : Y P n op env h v) : YO P n ⟨d, op, some (s, b)⟩ env h v := fun K hk => by
  simp only [vrunOps]; rw [hg]; simp only [if_true]; exact y _ hk
theorem yf {op : VOp} {s : Nat} {b : Bool} (hg : env s = .bool (!b)) : YO P n ⟨d, op, some (s, b)⟩ env h (.tup []) := fun K hk => by
  simp only [vrunOps]; rw [hg]; cases b <;> exact hk
theorem yu {op : VOp} {s : Nat} {b : Bool} (hg : env s = .tup []) : YO P n ⟨d, op, some (s, b)⟩ env h (.tup []) := fun K hk => by
  simp only [vrunOps]; rw [hg]; exact hk
theorem rcons {o : VO} : vrunOps P n (vrunOps P n K r) [o] env h → vrunOps P n K (o :: r) env h := by
  intro hh
  simp only [vrunOps] at hh ⊢; exact hh
theorem ys1 {op : VOp} (y : Y P n op env h v) (k : vrunOps P n K r (eput env d v) h) : vrunOps P n K (⟨d, op, none⟩ :: r) env h := y _ k
theorem yst {o : VO} (y : YO P n o env h v) (k : vrunOps P n K r (eput env o.dst v) h) : vrunOps P n K (o :: r) env h := rcons (y _ k)
/-- An effect. -/
def E (P : Program) [Glob] (n : Nat) (op : VOp) (env : Env) (h : VHeap) (v : PV) (h' : VHeap) : Prop := ∀ K : KP, K v h' → vop P n env h K op
theorem est {op : VOp} {h' : VHeap} (y : E P n op env h v h') (k : vrunOps P n K r (eput env d v) h') : vrunOps P n K (⟨d, op, none⟩ :: r) env h := y _ k
theorem gt {op : VOp} {s : Nat} {b : Bool} (hg : env s = .bool b) (k : vrunOps P n K (⟨d, op, none⟩ :: r) env h) : vrunOps P n K (⟨d, op, some (s, b)⟩ :: r) env h := by
  simp only [vrunOps] at *; rw [hg]; simpa using k
theorem gf {op : VOp} {s : Nat} {b : Bool} (hg : env s = .bool (!b)) (k : vrunOps P n K r (eput env d (.tup [])) h) : vrunOps P n K (⟨d, op, some (s, b)⟩ :: r) env h := yst (o := ⟨d, op, some (s, b)⟩) (yf hg) k
theorem gu {op : VOp} {s : Nat} {b : Bool} (hg : env s = .tup []) (k : vrunOps P n K r (eput env d (.tup [])) h) : vrunOps P n K (⟨d, op, some (s, b)⟩ :: r) env h := yst (o := ⟨d, op, some (s, b)⟩) (yu hg) k
/-- A guard that is not known. -/
theorem gb {op : VOp} {s : Nat} {b c : Bool} (hg : env s = .bool c) (k1 : c = b → vrunOps P n K (⟨d, op, none⟩ :: r) env h) (k2 : c = (!b) → vrunOps P n K r (eput env d (.tup [])) h) : vrunOps P n K (⟨d, op, some (s, b)⟩ :: r) env h := by
  by_cases hc : c = b
  · exact gt (by rw [hg, hc]) (k1 hc)
  · have hc : c = (!b) := by cases c <;> cases b <;> simp_all
    exact gf (by rw [hg, hc]) (k2 hc)
/-- A call. -/
theorem callT {f : FuncId} {args : List VA} {vs : List PV} {L' : VHeap} (hn : σ.length = n) (hi : InlA n L L (args.map (va env)) vs L') (k : T P f vs (σ ++ L') fun v h' => vrunOps P n K r (eput env d v) h') : vrunOps P n K (⟨d, .call false f args, none⟩ :: r) env (σ ++ L) := by
  obtain ⟨e1, e2⟩ := hi.ok hn
  simp only [vrunOps, vop, vCall, inlArgs, frzArgs]
  rw [inlL_eq] at e1
  rw [e1, e2]; exact k
theorem callU {f : FuncId} {args : List VA} {vs : List PV} {L' : VHeap} (u : U P f vs v) (hn : σ.length = n) (hi : InlA n L L (args.map (va env)) vs L') (k : vrunOps P n K r (eput env d v) (σ ++ L')) : vrunOps P n K (⟨d, .call false f args, none⟩ :: r) env (σ ++ L) :=
  callT hn hi (u _ _ k)
theorem y_call {f : FuncId} {args : List VA} {vs : List PV} (u : U P f vs v) (hi : args.map (va env) = vs) [hp : PlL vs] : Y P n (.call false f args) env h v := fun K hk => by
  simp only [vop, vCall, inlArgs, frzArgs]
  rw [hi, ← inlL_eq, hp.pl.1, hp.pl.2]; exact u _ _ hk
theorem callR {f : FuncId} {args : List VA} {vs : List PV} (hi : args.map (va env) = vs) (k : T P f vs h fun v h' => vrunOps P n K r (eput env d v) h') : vrunOps P n K (⟨d, .call true f args, none⟩ :: r) env h := by
  simp only [vrunOps, vop, vCall]; rw [hi]; exact k
/-- A call of a closure. -/
theorem callC {f : FuncId} {x : VA} {cap : List PV} {args : List VA} {vs : List PV} (hx : va env x = .fn f cap) (hok : callOk P f = true) (hi : args.map (va env) = vs) (k : T P f (vs ++ cap) h fun v h' => vrunOps P n K r (eput env d v) h') : vrunOps P n K (⟨d, .callV x args, none⟩ :: r) env h := by
  simp only [vrunOps, vop, vCallV]; rw [hx]; simp only [if_true]; rw [hi]; exact ⟨hok, k⟩
theorem y_mov {x : VA} (e : va env x = v) : Y P n (.mov x) env h v := fun K hk => by show K (va env x) h; rw [e]; exact hk
theorem y_pickT {c x y : VA} (e : va env c = .bool true) (e2 : va env x = v) : Y P n (.pick c x y) env h v := fun K hk => by simp only [vop, vPick]; rw [e, e2]; exact hk
theorem y_pickF {c x y : VA} (e : va env c = .bool false) (e2 : va env y = v) : Y P n (.pick c x y) env h v := fun K hk => by simp only [vop, vPick]; rw [e, e2]; exact hk
theorem y_loadL {sz : Option Nat} {x : VA} {k g off : Nat} {cs : List PV} {fz : Bool} (e : va env x = .ptr (n + k) g off) (hn : σ.length = n) (hg : vGet L k g = some (.box cs fz)) (hc : cut cs off sz = some v) : Y P n (.load sz x) env (σ ++ L) v := fun K hk => by
  simp only [vop, vLoad]; rw [e]; simp only [lget hn hg, hc]; exact hk
theorem y_load {sz : Option Nat} {x : VA} {id g off : Nat} {cs : List PV} {fz : Bool} (e : va env x = .ptr id g off) (hg : vGet h id g = some (.box cs fz)) (hc : cut cs off sz = some v) : Y P n (.load sz x) env h v := fun K hk => by
  simp only [vop, vLoad]; rw [e]; simp only [hg, hc]; exact hk
theorem y_loadI {sz : Option Nat} {x : VA} {off : Nat} {cs : List PV} (e : va env x = .iptr cs off) (hc : cut cs off sz = some v) : Y P n (.load sz x) env h v := fun K hk => by
  simp only [vop, vLoad]; rw [e]; simp only [hc]; exact hk
theorem y_loadR {sz : Option Nat} {x : VA} {id g i off s : Nat} {es : List (List PV)} {fz : Bool} {c : List PV} (e : va env x = .rptr id g i off) (hg : vGet h id g = some (.row s es fz)) (hi : es[i]? = some c) (hc : cut c off sz = some v) : Y P n (.load sz x) env h v := fun K hk => by
  simp only [vop, vLoad]; rw [e]; simp only [hg, hi, hc]; exact hk
theorem y_nilL {x : VA} {k g off : Nat} {o : VObj} (e : va env x = .ptr (n + k) g off) (hn : σ.length = n) (hg : vGet L k g = some o) : Y P n (.nilCheck x) env (σ ++ L) (.ptr (n + k) g off) := fun K hk => by
  simp only [vop, vNilCheck]; rw [e]; exact ⟨⟨_, lget hn hg⟩, hk⟩
theorem y_nil {x : VA} {id g off : Nat} {o : VObj} (e : va env x = .ptr id g off) (hg : vGet h id g = some o) : Y P n (.nilCheck x) env h (.ptr id g off) := fun K hk => by
  simp only [vop, vNilCheck]; rw [e]; exact ⟨⟨_, hg⟩, hk⟩
theorem y_nilI {x : VA} {off : Nat} {cs : List PV} (e : va env x = .iptr cs off) : Y P n (.nilCheck x) env h (.iptr cs off) := fun K hk => by
  simp only [vop, vNilCheck]; rw [e]; exact hk
theorem y_nilR {x : VA} {id g i off : Nat} {o : VObj} (e : va env x = .rptr id g i off) (hg : vGet h id g = some o) : Y P n (.nilCheck x) env h (.rptr id g i off) := fun K hk => by
  simp only [vop, vNilCheck]; rw [e]; exact ⟨⟨_, hg⟩, hk⟩
theorem y_fieldL {f : Nat} {x : VA} {k g off : Nat} {o : VObj} (e : va env x = .ptr (n + k) g off) (hn : σ.length = n) (hg : vGet L k g = some o) {o2 : Nat} (ho : off + f = o2) : Y P n (.field f x) env (σ ++ L) (.ptr (n + k) g o2) := fun K hk => by
  subst ho
  simp only [vop, vField]; rw [e]; exact ⟨⟨_, lget hn hg⟩, hk⟩
theorem y_field {f : Nat} {x : VA} {id g off : Nat} {o : VObj} (e : va env x = .ptr id g off) (hg : vGet h id g = some o) {o2 : Nat} (ho : off + f = o2) : Y P n (.field f x) env h (.ptr id g o2) := fun K hk => by
  subst ho
  simp only [vop, vField]; rw [e]; exact ⟨⟨_, hg⟩, hk⟩
theorem y_fieldI {f : Nat} {x : VA} {off : Nat} {cs : List PV} (e : va env x = .iptr cs off) {o2 : Nat} (ho : off + f = o2) : Y P n (.field f x) env h (.iptr cs o2) := fun K hk => by
  subst ho
  simp only [vop, vField]; rw [e]; exact hk
theorem y_fieldR {f : Nat} {x : VA} {id g i off : Nat} {o : VObj} (e : va env x = .rptr id g i off) (hg : vGet h id g = some o) {o2 : Nat} (ho : off + f = o2) : Y P n (.field f x) env h (.rptr id g i o2) := fun K hk => by
  subst ho
  simp only [vop, vField]; rw [e]; exact ⟨⟨_, hg⟩, hk⟩
theorem y_bin {op : BinOp} {t : BT} {x y : VA} {k k' : IntKind} {a b : Int} (e : va env x = .int k a) (e2 : va env y = .int k' b) (hc : ibin op k a k' b = some v) : Y P n (.bin op t x y) env h v := fun K hk => by
  simp only [vop, vBin]; rw [e, e2]; simp only [hc]; exact hk
theorem y_binS {op : BinOp} {t : BT} {x y : VA} {a b : List UInt8} (e : va env x = .str a) (e2 : va env y = .str b) (hc : sbin op a b = some v) : Y P n (.bin op t x y) env h v := fun K hk => by
  simp only [vop, vBin]; rw [e, e2]; simp only [hc]; exact hk
theorem y_eqB {x y : VA} {a b : Bool} (e : va env x = .bool a) (e2 : va env y = .bool b) : Y P n (.bin .eql .bool x y) env h (.bool (a == b)) := fun K hk => by
  simp only [vop, vBin]; rw [e, e2]; exact ⟨trivial, hk⟩
theorem y_neB {x y : VA} {a b : Bool} (e : va env x = .bool a) (e2 : va env y = .bool b) : Y P n (.bin .neq .bool x y) env h (.bool (!(a == b))) := fun K hk => by
  simp only [vop, vBin]; rw [e, e2]; exact ⟨trivial, hk⟩
theorem y_ptrE {x y : VA} {id g off : Nat} {o : VObj} (e : va env x = .ptr id g off) (e2 : va env y = .nilp) (hg : vGet h id g = some o) : Y P n (.bin .eql .ptr x y) env h (.bool false) := fun K hk => by
  simp only [vop, vBin]; rw [e, e2]; exact ⟨trivial, ⟨_, hg⟩, hk⟩
theorem y_ptrN {x y : VA} {id g off : Nat} {o : VObj} (e : va env x = .ptr id g off) (e2 : va env y = .nilp) (hg : vGet h id g = some o) : Y P n (.bin .neq .ptr x y) env h (.bool true) := fun K hk => by
  simp only [vop, vBin]; rw [e, e2]; exact ⟨trivial, ⟨_, hg⟩, hk⟩
theorem y_nilE {x y : VA} (e : va env x = .nilp) (e2 : va env y = .nilp) : Y P n (.bin .eql .ptr x y) env h (.bool true) := fun K hk => by
  simp only [vop, vBin]; rw [e, e2]; exact ⟨trivial, hk⟩
theorem y_nilN {x y : VA} (e : va env x = .nilp) (e2 : va env y = .nilp) : Y P n (.bin .neq .ptr x y) env h (.bool false) := fun K hk => by
  simp only [vop, vBin]; rw [e, e2]; exact ⟨trivial, hk⟩
theorem y_not {x : VA} {b : Bool} (e : va env x = .bool b) : Y P n (.un .not x) env h (.bool !b) := fun K hk => by
  simp only [vop, vUn]; rw [e]; exact hk
theorem y_neg {x : VA} {k : IntKind} {a b : Int} (e : va env x = .int k a) (hw : k.wrap (0 - a) = b) : Y P n (.un .neg x) env h (.int k b) := fun K hk => by
  simp only [vop, vUn]; rw [e]; simp only [hw]; exact hk
theorem y_conv {k' : IntKind} {x : VA} {k : IntKind} {a : Int} {b : Int} (e : va env x = .int k a) (hw : k'.wrap a = b) : Y P n (.convInt k' x) env h (.int k' b) := fun K hk => by
  simp only [vop, vConvInt]; rw [e]; simp only [hw]; exact hk
theorem y_convS {x : VA} {a : List UInt8} (e : va env x = .str a) : Y P n (.convStr x) env h (.str a) := fun K hk => by
  simp only [vop, vConvStr]; rw [e]; exact hk
theorem y_b2s {x : VA} {es : List (List PV)} {bs : List UInt8} (e : rd h (va env x) = some es) (hb : es.mapM byteOf = some bs) : Y P n (.b2s x) env h (.str bs) := fun K hk => by
  simp only [vop, vB2S]; rw [e]; simp only [hb]; exact hk
theorem y_func {f : FuncId} {caps : List VA} {cs : List PV} (e : caps.map (va env) = cs) : Y P n (.func f caps) env h (.fn f cs) := fun K hk => by
  simp only [vop, vFunc]; rw [e]; exact hk
theorem y_build {zero : List PV} {parts : List (Nat × Nat × VA)} {cs : List PV} (e : vFill zero (parts.map fun q => (q.1, q.2.1, va env q.2.2)) = some cs) : Y P n (.build zero parts) env h (.agg cs) := fun K hk => by
  simp only [vop, vBuild]; rw [e]; exact hk
theorem y_fieldVal {off : Nat} {q : Option Nat} {x : VA} {cs : List PV} (e : va env x = .agg cs) (hc : cut cs off q = some v) : Y P n (.fieldVal off q x) env h v := fun K hk => by
  simp only [vop, vFieldVal]; rw [e]; simp only [hc]; exact hk
theorem y_extract {k : Nat} {x : VA} {vs : List PV} (e : va env x = .tup vs) (hc : vs[k]? = some v) : Y P n (.extract k x) env h v := fun K hk => by
  simp only [vop, vExtract]; rw [e]; simp only [hc]; exact hk
theorem y_indexS {sz : Nat} {x y : VA} {es : List (List PV)} {q : IntKind} {i : Int} {c : List PV} (e : va env x = .sl es) (e2 : va env y = .int q i) (h0 : 0 ≤ i) (hc : es[i.toNat]? = some c) (hl : c.length = sz) : Y P n (.index sz x y) env h (.iptr c 0) := fun K hk => by
  simp only [vop, vIndex]; rw [e, e2]; simp only [hc]; exact ⟨h0, hl, hk⟩
theorem y_indexR {sz : Nat} {x y : VA} {id g : Nat} {es : List (List PV)} {fz : Bool} {q : IntKind} {i : Int} (e : va env x = .row id g) (e2 : va env y = .int q i) (hg : vGet h id g = some (.row sz es fz)) (h0 : 0 ≤ i) (hc : i < es.length) : Y P n (.index sz x y) env h (.rptr id g i.toNat 0) := fun K hk => by
  simp only [vop, vIndex]; rw [e, e2]; simp only [hg]; exact ⟨trivial, h0, hc, hk⟩
theorem y_indexV {sz : Nat} {x y : VA} {id g off len : Nat} {o : VObj} {q : IntKind} {i : Int} {o2 : Nat} (e : va env x = .bview id g off len) (e2 : va env y = .int q i) (hg : vGet h id g = some o) (hs : sz = 1) (h0 : 0 ≤ i) (hm : i < len) (ho : off + i.toNat = o2) : Y P n (.index sz x y) env h (.ptr id g o2) := fun K hk => by
  subst ho
  simp only [vop, vIndex]; rw [e, e2]; exact ⟨hs, ⟨_, hg⟩, h0, hm, hk⟩
theorem y_indexStr {x y : VA} {s : List UInt8} {q : IntKind} {i : Int} {b : UInt8} (e : va env x = .str s) (e2 : va env y = .int q i) (h0 : 0 ≤ i) (hc : s[i.toNat]? = some b) : Y P n (.indexStr x y) env h (.int .u8 b.toNat) := fun K hk => by
  simp only [vop, vIndexStr]; rw [e, e2]; simp only [hc]; exact ⟨h0, hk⟩
theorem y_indexAgg {m sz : Nat} {w : Option Nat} {x y : VA} {cs : List PV} {q : IntKind} {i : Int} (e : va env x = .agg cs) (e2 : va env y = .int q i) (h0 : 0 ≤ i) (hm : i < m) (hc : cut cs (i.toNat * sz) w = some v) : Y P n (.indexAgg m sz w x y) env h v := fun K hk => by
  simp only [vop, vIndexAgg]; rw [e, e2]; simp only [hc]; exact ⟨h0, hm, hk⟩
theorem y_indexArr {m sz : Nat} {x y : VA} {id g off : Nat} {o : VObj} {q : IntKind} {i : Int} (e : va env x = .ptr id g off) (e2 : va env y = .int q i) (hg : vGet h id g = some o) (h0 : 0 ≤ i) (hm : i < m) {o2 : Nat} (ho : off + i.toNat * sz = o2) : Y P n (.indexArr m sz x y) env h (.ptr id g o2) := fun K hk => by
  subst ho
  simp only [vop, vIndexArr]; rw [e2]; refine ⟨h0, hm, ?_⟩; unfold vField; rw [e]; exact ⟨⟨_, hg⟩, hk⟩
theorem y_indexArrI {m sz : Nat} {x y : VA} {cs : List PV} {off : Nat} {q : IntKind} {i : Int} (e : va env x = .iptr cs off) (e2 : va env y = .int q i) (h0 : 0 ≤ i) (hm : i < m) {o2 : Nat} (ho : off + i.toNat * sz = o2) : Y P n (.indexArr m sz x y) env h (.iptr cs o2) := fun K hk => by
  subst ho
  simp only [vop, vIndexArr]; rw [e2]; refine ⟨h0, hm, ?_⟩; unfold vField; rw [e]; exact hk
theorem y_lenS {x : VA} {es : List (List PV)} {m : Nat} (e : va env x = .sl es) (hm : SLen es m) : Y P n (.len x) env h (.int .i64 m) := fun K hk => by
  simp only [vop, vLen]; rw [e]; simp only [rd, hm.len]; exact hk
theorem y_len0 {x : VA} (e : va env x = .nils) : Y P n (.len x) env h (.int .i64 0) := fun K hk => by
  simp only [vop, vLen]; rw [e]; exact hk
theorem y_lenR {x : VA} {id g sz : Nat} {es : List (List PV)} {fz : Bool} {m : Nat} (e : va env x = .row id g) (hg : vGet h id g = some (.row sz es fz)) (hm : SLen es m) : Y P n (.len x) env h (.int .i64 m) := fun K hk => by
  simp only [vop, vLen]; rw [e]; simp only [rd, hg, hm.len]; exact hk
theorem y_lenV {x : VA} {id g off len : Nat} {cs : List PV} {fz : Bool} (e : va env x = .bview id g off len) (hg : vGet h id g = some (.box cs fz)) (hl : off + len ≤ cs.length) : Y P n (.len x) env h (.int .i64 len) := fun K hk => by
  simp only [vop, vLen]; rw [e]; simp only [rd, hg]
  have : (((cs.drop off).take len).map fun c => [c]).length = len := by simp; omega
  rw [this]; exact hk
theorem y_lenStr {x : VA} {s : List UInt8} (e : va env x = .str s) : Y P n (.lenStr x) env h (.int .i64 s.length) := fun K hk => by
  simp only [vop, vLenStr]; rw [e]; exact hk
theorem y_lenMap {x : VA} {id g clock : Nat} {es : Ents} (e : va env x = .map id g) (hg : vGet h id g = some (.map es clock)) : Y P n (.lenMap x) env h (.int .i64 es.length) := fun K hk => by
  simp only [vop, vMapLen, withMap]; rw [e]; simp only [hg]; exact hk
theorem y_sliceStr {x : VA} {lo hi : Option VA} {s : List UInt8} {l u : Nat} (e : va env x = .str s) (e1 : bound (lo.map (va env)) 0 = some l) (e2 : bound (hi.map (va env)) s.length = some u) (h1 : l ≤ u) (h2 : u ≤ s.length) : Y P n (.sliceStr x lo hi) env h (.str ((s.drop l).take (u - l))) := fun K hk => by
  simp only [vop, vSliceStr]; rw [e]; simp only [e1, e2]; exact ⟨h1, h2, hk⟩
theorem y_slice {sz : Nat} {x : VA} {lo hi : Option VA} {es q : List (List PV)} {l u m : Nat} (e : va env x = .sl es) (hm : SLen es m) (e1 : bound (lo.map (va env)) 0 = some l) (e2 : bound (hi.map (va env)) m = some u) (h1 : l ≤ u) (h2 : u ≤ m) (hs : ∀ e, e ∈ es → e.length = sz) (hq : SCut es l (u - l) q) : Y P n (.slice sz x lo hi) env h (.sl q) := fun K hk => by
  have hm := hm.len; subst hm
  have hq := hq.cut; subst hq
  simp only [vop, vSlice]; rw [e]; simp only [e1, e2]; exact ⟨h1, h2, hs, hk⟩
theorem y_sliceArr {m sz : Nat} {x : VA} {lo hi : Option VA} {id g off : Nat} {cs : List PV} {fz : Bool} {l u : Nat} (e : va env x = .ptr id g off) (hg : vGet h id g = some (.box cs fz)) (e1 : bound (lo.map (va env)) 0 = some l) (e2 : bound (hi.map (va env)) m = some u) (hs : sz = 1) (h0 : off + m ≤ cs.length) (h1 : l ≤ u) (h2 : u ≤ m) {o2 d2 : Nat} (ho : off + l = o2) (hd : u - l = d2) : Y P n (.sliceArr m sz x lo hi) env h (.bview id g o2 d2) := fun K hk => by
  subst ho hd
  simp only [vop, vSliceArr]; rw [e]; simp only [hg, e1, e2]; exact ⟨hs, h0, h1, h2, hk⟩
theorem y_eqAgg {ks : List CK} {ne : Bool} {x y : VA} {cs ds : List PV} {b : Bool} (e : va env x = .agg cs) (e2 : va env y = .agg ds) (hc : eqCells ks cs ds = some b) : Y P n (.eqAgg ks ne x y) env h (.bool (if ne then !b else b)) := fun K hk => by
  simp only [vop, vEqAgg]; rw [e, e2]; simp only [hc]; exact hk
theorem y_lookF {b ok : Bool} {zero : PV} {x y : VA} {id g i bn clock : Nat} {es : Ents} {v0 : PV} (e : va env x = .map id g) (hg : vGet h id g = some (.map es clock)) (hk : keyV b (va env y) = true) (hl : look (va env y) es = some (some (i, v0, bn))) : Y P n (.lookup b zero ok x y) env h (if ok then .tup [v0, .bool true] else v0) := fun K hk' => by
  simp only [vop, vLookup, withMap]; refine ⟨hk, ?_⟩; rw [e]; simp only [hg, hl]; exact hk'
theorem y_lookN {b ok : Bool} {zero : PV} {x y : VA} {id g clock : Nat} {es : Ents} (e : va env x = .map id g) (hg : vGet h id g = some (.map es clock)) (hk : keyV b (va env y) = true) (hl : look (va env y) es = some none) : Y P n (.lookup b zero ok x y) env h (if ok then .tup [zero, .bool false] else zero) := fun K hk' => by
  simp only [vop, vLookup, withMap]; refine ⟨hk, ?_⟩; rw [e]; simp only [hg, hl]; exact hk'
theorem y_minmax {mx : Bool} {x y : VA} {k : IntKind} {a b : Int} (e : va env x = .int k a) (e2 : va env y = .int k b) : Y P n (.minmax mx x y) env h (.int k (if mx then (if a < b then b else a) else (if b < a then b else a))) := fun K hk => by
  simp only [vop, vMinMax]; rw [e, e2]; exact ⟨rfl, hk⟩

/-- Is it nil? Of an empty one nobody knows. -/
theorem nilE {x y : VA} {es : List (List PV)} (e : va env x = .sl es) (e2 : va env y = .nils) (k1 : vrunOps P n K r (eput env d (.bool false)) h) (k2 : es = [] → vrunOps P n K r (eput env d (.bool true)) h) : vrunOps P n K (⟨d, .bin .eql .slice x y, none⟩ :: r) env h := by
  simp only [vrunOps, vop, vBin]; rw [e, e2]; exact ⟨trivial, k1, k2⟩
theorem nilN {x y : VA} {es : List (List PV)} (e : va env x = .sl es) (e2 : va env y = .nils) (k1 : vrunOps P n K r (eput env d (.bool true)) h) (k2 : es = [] → vrunOps P n K r (eput env d (.bool false)) h) : vrunOps P n K (⟨d, .bin .neq .slice x y, none⟩ :: r) env h := by
  simp only [vrunOps, vop, vBin]; rw [e, e2]; exact ⟨trivial, k1, k2⟩
theorem y_nilsE {x y : VA} (e : va env x = .nils) (e2 : va env y = .nils) : Y P n (.bin .eql .slice x y) env h (.bool true) := fun K hk => by
  simp only [vop, vBin]; rw [e, e2]; exact ⟨trivial, hk⟩

/-! Effects. -/
theorem e_new {s g : Nat} {o0 o : VObj} {L' : VHeap} {f : Nat → PV} {op : VOp} (hv : ∀ K : KP, vNew (n + s) o (σ ++ L) (fun g σ => K (f g) σ) → vop P n env (σ ++ L) K op) (hn : σ.length = n) (hg : L[s]? = some (g, o0)) (hL : L.set s (g + 1, o) = L') : E P n op env (σ ++ L) (f (g + 1)) (σ ++ L') := fun K hk => by
  refine hv K ?_
  unfold vNew
  rw [lraw hn hg]
  subst hL
  simp only [lset hn]
  exact hk
theorem e_alloc {s g : Nat} {zero : List PV} {o0 : VObj} {L' : VHeap} (hn : σ.length = n) (hg : L[s]? = some (g, o0)) (hL : L.set s (g + 1, .box zero false) = L') : E P n (.alloc s zero) env (σ ++ L) (.ptr (n + s) (g + 1) 0) (σ ++ L') :=
  e_new (f := fun g => .ptr (n + s) g 0) (fun _ h => h) hn hg hL
theorem e_box {s g : Nat} {x : VA} {c : PV} {cs : List PV} {o0 : VObj} {L' : VHeap} (e : va env x = c) (hp : pcells c = cs) (hsc : cs.all scalar = true) (hn : σ.length = n) (hg : L[s]? = some (g, o0)) (hL : L.set s (g + 1, .box cs false) = L') : E P n (.box s x) env (σ ++ L) (.ptr (n + s) (g + 1) 0) (σ ++ L') :=
  e_new (f := fun g => .ptr (n + s) g 0) (fun _ h => by subst e; subst hp; exact ⟨hsc, h⟩) hn hg hL
theorem e_newRow {s sz g : Nat} {o0 : VObj} {L' : VHeap} (hn : σ.length = n) (hg : L[s]? = some (g, o0)) (hL : L.set s (g + 1, .row sz [] false) = L') : E P n (.newRow s sz) env (σ ++ L) (.row (n + s) (g + 1)) (σ ++ L') :=
  e_new (f := fun g => .row (n + s) g) (fun _ h => h) hn hg hL
theorem e_makeMap {s g : Nat} {o0 : VObj} {L' : VHeap} (hn : σ.length = n) (hg : L[s]? = some (g, o0)) (hL : L.set s (g + 1, .map [] 0) = L') : E P n (.makeMap s) env (σ ++ L) (.map (n + s) (g + 1)) (σ ++ L') :=
  e_new (f := fun g => .map (n + s) g) (fun _ h => h) hn hg hL
theorem e_buildSlice {s sz len g : Nat} {zero : List PV} {parts : List (Nat × VA)} {es : List (List PV)} {o0 : VObj} {L' : VHeap} (e : vFillRow sz (List.replicate len zero) (parts.map fun q => (q.1, va env q.2)) = some es) (hn : σ.length = n) (hg : L[s]? = some (g, o0)) (hL : L.set s (g + 1, .row sz es false) = L') : E P n (.buildSlice s sz len zero parts) env (σ ++ L) (.row (n + s) (g + 1)) (σ ++ L') :=
  e_new (f := fun g => .row (n + s) g) (fun _ h => by simp only [vop, vBuildSlice]; rw [e]; exact h) hn hg hL
theorem e_s2b {s g : Nat} {x : VA} {t : List UInt8} {o0 : VObj} {L' : VHeap} (e : va env x = .str t) (hl : t.length ≤ 9223372036854775807) (hn : σ.length = n) (hg : L[s]? = some (g, o0)) (hL : L.set s (g + 1, .row 1 (bytesEs t) false) = L') : E P n (.s2b s x) env (σ ++ L) (.row (n + s) (g + 1)) (σ ++ L') :=
  e_new (f := fun g => .row (n + s) g) (fun _ h => by simp only [vop, vS2B]; rw [e]; exact ⟨hl, h⟩) hn hg hL
theorem e_makeSlice {s sz by' g : Nat} {zero : List PV} {x y : VA} {k k' : IntKind} {l c : Int} {o0 : VObj} {L' : VHeap} (e : va env x = .int k l) (e2 : va env y = .int k' c) (h0 : 0 ≤ l) (h1 : l ≤ c) (h2 : c * by' ≤ 140737488355328) (h3 : c ≤ 140737488355328) (hn : σ.length = n) (hg : L[s]? = some (g, o0)) (hL : L.set s (g + 1, .row sz (List.replicate l.toNat zero) false) = L') : E P n (.makeSlice s sz by' zero x y) env (σ ++ L) (.row (n + s) (g + 1)) (σ ++ L') :=
  e_new (f := fun g => .row (n + s) g) (fun _ h => by simp only [vop, vMakeSlice]; rw [e, e2]; exact ⟨h0, h1, h2, h3, h⟩) hn hg hL
theorem e_clip {s sz g : Nat} {x : VA} {es : List (List PV)} {o0 : VObj} {L' : VHeap} (e : rd (σ ++ L) (va env x) = some es) (hn : σ.length = n) (hg : L[s]? = some (g, o0)) (hL : L.set s (g + 1, .row sz [] false) = L') : E P n (.clip s sz x) env (σ ++ L) (.row (n + s) (g + 1)) (σ ++ L') :=
  e_new (f := fun g => .row (n + s) g) (fun _ h => ⟨⟨es, e⟩, h⟩) hn hg hL
theorem e_rangeStr {s g : Nat} {x : VA} {t : List UInt8} {o0 : VObj} {L' : VHeap} (e : va env x = .str t) (hn : σ.length = n) (hg : L[s]? = some (g, o0)) (hL : L.set s (g + 1, .siter t 0) = L') : E P n (.rangeStr s x) env (σ ++ L) (.iter (n + s) (g + 1)) (σ ++ L') :=
  e_new (f := fun g => .iter (n + s) g) (fun _ h => by simp only [vop, vRangeStr]; rw [e]; exact h) hn hg hL
theorem e_rangeMap {s g m mg clock : Nat} {x : VA} {es : Ents} {o0 : VObj} {L' : VHeap} (e : va env x = .map m mg) (hm : vGet (σ ++ L) m mg = some (.map es clock)) (hn : σ.length = n) (hg : L[s]? = some (g, o0)) (hL : L.set s (g + 1, .miter m mg clock clock []) = L') : E P n (.rangeMap s x) env (σ ++ L) (.iter (n + s) (g + 1)) (σ ++ L') :=
  e_new (f := fun g => .iter (n + s) g) (fun _ h => by simp only [vop, vRangeMap, withMap]; rw [e]; simp only [hm]; exact h) hn hg hL
theorem e_storeL {sz : Nat} {x y : VA} {k g off : Nat} {cs cs' ds : List PV} {c : PV} {L' : VHeap} (e : va env x = .ptr (n + k) g off) (e2 : va env y = c) (hp : pcells c = ds) (hl : ds.length = sz) (hsc : ds.all scalar = true) (hn : σ.length = n) (hg : vGet L k g = some (.box cs false)) (hle : off + sz ≤ cs.length) (hs : splice cs off ds = cs') (hL : L.set k (g, .box cs' false) = L') : E P n (.store sz x y) env (σ ++ L) .undef (σ ++ L') := fun K hk => by
  subst e2; subst hp; subst hs; subst hL
  simp only [vop, vStore]
  refine ⟨hl, hsc, ?_⟩
  rw [e]; simp only [lget hn hg, lset hn]; exact ⟨hle, hk⟩
theorem e_storeO {sz : Nat} {x y : VA} {id g off : Nat} {cs cs' ds : List PV} {c : PV} (e : va env x = .ptr id g off) (e2 : va env y = c) (hp : pcells c = ds) (hl : ds.length = sz) (hsc : ds.all scalar = true) (hg : vGet σ id g = some (.box cs false)) (hle : off + sz ≤ cs.length) (hs : splice cs off ds = cs') : E P n (.store sz x y) env (σ ++ L) .undef (σ.set id (g, .box cs' false) ++ L) := fun K hk => by
  subst e2; subst hp; subst hs
  simp only [vop, vStore]
  refine ⟨hl, hsc, ?_⟩
  rw [e]; simp only [oget hg, oset _ (vGet_lt hg)]; exact ⟨hle, hk⟩
theorem e_storeR {sz s : Nat} {x y : VA} {k g i off : Nat} {es : List (List PV)} {c0 ds : List PV} {c : PV} {L' : VHeap} (e : va env x = .rptr (n + k) g i off) (e2 : va env y = c) (hp : pcells c = ds) (hl : ds.length = sz) (hsc : ds.all scalar = true) (hn : σ.length = n) (hg : vGet L k g = some (.row s es false)) (hi : es[i]? = some c0) (hle : off + sz ≤ c0.length) (hL : L.set k (g, .row s (es.set i (splice c0 off ds)) false) = L') : E P n (.store sz x y) env (σ ++ L) .undef (σ ++ L') := fun K hk => by
  subst e2; subst hp; subst hL
  simp only [vop, vStore]
  refine ⟨hl, hsc, ?_⟩
  rw [e]; simp only [lget hn hg, lset hn, hi]; exact ⟨hle, hk⟩
theorem e_append {s sz by' : Nat} {x y : VA} {k g : Nat} {es new q : List (List PV)} {fz : Bool} {L' : VHeap} (e : va env x = .row (n + k) g) (e2 : rdA (σ ++ L) (va env y) = some new) (hok : RowOk sz new) (hn : σ.length = n) (hg : vGet L k g = some (.row sz es fz)) (hb : (es.length + new.length) * by' ≤ 140737488355328) (hq : SApp es new q) (hL : L.set k (g + 1, .row sz q fz) = L') : E P n (.append s sz by' x y) env (σ ++ L) (.row (n + k) (g + 1)) (σ ++ L') := fun K hk => by
  subst hL
  have hq := hq.app; subst hq
  simp only [vop, vAppend]; rw [e2]; refine ⟨hok, ?_⟩
  rw [e]; simp only [own, lget hn hg, lset hn]; exact ⟨trivial, hb, hk⟩
theorem e_appendS {s sz by' : Nat} {x y : VA} {k g : Nat} {es0 : List (List PV)} {es new q : List (List PV)} {fz : Bool} {L' : VHeap} (e : va env x = .slr es0 (n + k) g) (e2 : rdA (σ ++ L) (va env y) = some new) (hok : RowOk sz new) (hn : σ.length = n) (hg : vGet L k g = some (.row sz es fz)) (hb : (es.length + new.length) * by' ≤ 140737488355328) (hq : SApp es new q) (hL : L.set k (g + 1, .row sz q fz) = L') : E P n (.append s sz by' x y) env (σ ++ L) (.row (n + k) (g + 1)) (σ ++ L') := fun K hk => by
  subst hL
  have hq := hq.app; subst hq
  simp only [vop, vAppend]; rw [e2]; refine ⟨hok, ?_⟩
  rw [e]; simp only [own, lget hn hg, lset hn]; exact ⟨trivial, hb, hk⟩
theorem e_append0 {s sz by' : Nat} {x y : VA} {g : Nat} {new : List (List PV)} {o0 : VObj} {L' : VHeap} (e : va env x = .nils) (e2 : rdA (σ ++ L) (va env y) = some new) (hok : RowOk sz new) (hb : new.length * by' ≤ 140737488355328) (hn : σ.length = n) (hg : L[s]? = some (g, o0)) (hL : L.set s (g + 1, .row sz new false) = L') : E P n (.append s sz by' x y) env (σ ++ L) (.row (n + s) (g + 1)) (σ ++ L') :=
  e_new (f := fun g => .row (n + s) g) (fun _ h => by simp only [vop, vAppend]; rw [e2]; refine ⟨hok, ?_⟩; rw [e]; exact ⟨hb, h⟩) hn hg hL
theorem e_snap {sz : Nat} {x : VA} {k g : Nat} {es : List (List PV)} {fz : Bool} {L' : VHeap} (e : va env x = .row (n + k) g) (hn : σ.length = n) (hg : L[k]? = some (g, .row sz es fz)) (hL : frzId L k = L') : E P n (.snap x) env (σ ++ L) (.slr es (n + k) g) (σ ++ L') := fun K hk => by
  subst hL
  simp only [vop, vSnap]; rw [e]; simp only [lraw hn hg, frzId_part hn]; exact ⟨trivial, hk⟩
theorem e_copyV {sz : Nat} {x y : VA} {k g off len : Nat} {cs cs' : List PV} {new : List (List PV)} {L' : VHeap} (e : va env x = .bview (n + k) g off len) (e2 : rdA (σ ++ L) (va env y) = some new) (hok : RowOk sz new) (hn : σ.length = n) (hg : vGet L k g = some (.box cs false)) (hsz : sz = 1) (hle : off + len ≤ cs.length) (hs : splice cs off ((new.take len).flatten) = cs') (hL : L.set k (g, .box cs' false) = L') : E P n (.copyTo sz x y) env (σ ++ L) (.int .i64 (min new.length len : Nat)) (σ ++ L') := fun K hk => by
  subst hL; subst hs
  simp only [vop, vCopyTo]; rw [e2]; refine ⟨hok, ?_⟩
  rw [e]; simp only [lget hn hg, lset hn]; exact ⟨hsz, hle, hk⟩
theorem e_copyR {sz : Nat} {x y : VA} {k g : Nat} {es new : List (List PV)} {L' : VHeap} (e : va env x = .row (n + k) g) (e2 : rdA (σ ++ L) (va env y) = some new) (hok : RowOk sz new) (hn : σ.length = n) (hg : vGet L k g = some (.row sz es false)) (hL : L.set k (g, .row sz (ovl es 0 es.length new) false) = L') : E P n (.copyTo sz x y) env (σ ++ L) (.int .i64 (min new.length es.length : Nat)) (σ ++ L') := fun K hk => by
  subst hL
  simp only [vop, vCopyTo]; rw [e2]; refine ⟨hok, ?_⟩
  rw [e]; simp only [lget hn hg, lset hn]; exact ⟨trivial, hk⟩
theorem e_copyW {sz : Nat} {x y : VA} {k g lo len : Nat} {es new : List (List PV)} {L' : VHeap} (e : va env x = .rview (n + k) g lo len) (e2 : rdA (σ ++ L) (va env y) = some new) (hok : RowOk sz new) (hn : σ.length = n) (hg : vGet L k g = some (.row sz es false)) (hle : lo + len ≤ es.length) (hL : L.set k (g, .row sz (ovl es lo len new) false) = L') : E P n (.copyTo sz x y) env (σ ++ L) (.int .i64 (min new.length len : Nat)) (σ ++ L') := fun K hk => by
  subst hL
  simp only [vop, vCopyTo]; rw [e2]; refine ⟨hok, ?_⟩
  rw [e]; simp only [lget hn hg, lset hn]; exact ⟨trivial, hle, hk⟩
theorem y_sliceV {sz : Nat} {x : VA} {lo hi : Option VA} {id g : Nat} {es : List (List PV)} {fz : Bool} {l u : Nat} (e : va env x = .row id g) (hg : vGet h id g = some (.row sz es fz)) (e1 : bound (lo.map (va env)) 0 = some l) (e2 : bound (hi.map (va env)) es.length = some u) (h1 : l ≤ u) (h2 : u ≤ es.length) : Y P n (.sliceV sz x lo hi) env h (.rview id g l (u - l)) := fun K hk => by
  simp only [vop, vSliceV]; rw [e]; simp only [hg, e1, e2]; exact ⟨trivial, h1, h2, hk⟩
theorem e_sliceR {sz : Nat} {x : VA} {lo hi : Option VA} {k g : Nat} {es q : List (List PV)} {fz : Bool} {l u m : Nat} {L' : VHeap} (e : va env x = .row (n + k) g) (hn : σ.length = n) (hg : vGet L k g = some (.row sz es fz)) (hm : SLen es m) (e1 : bound (lo.map (va env)) 0 = some l) (e2 : bound (hi.map (va env)) m = some u) (h1 : l ≤ u) (h2 : u ≤ m) (hq : SCut es l (u - l) q) (hL : frzId L k = L') : E P n (.slice sz x lo hi) env (σ ++ L) (.sl q) (σ ++ L') := fun K hk => by
  subst hL
  have hm := hm.len; subst hm
  have hq := hq.cut; subst hq
  simp only [vop, vSlice]; rw [e]; simp only [lget hn hg, e1, e2, frzId_part hn]; exact ⟨trivial, h1, h2, hk⟩
theorem e_nextStr {x : VA} {k g pos : Nat} {t : List UInt8} {L' : VHeap} (e : va env x = .iter (n + k) g) (hn : σ.length = n) (hg : vGet L k g = some (.siter t pos)) (hp : pos < t.length) (hL : L.set k (g, .siter t (pos + (Utf8.decode ⟨t.toArray⟩ pos).2)) = L') : E P n (.nextStr x) env (σ ++ L) (.tup [.bool true, .int .i64 pos, .int .i32 (Utf8.decode ⟨t.toArray⟩ pos).1]) (σ ++ L') := fun K hk => by
  subst hL
  simp only [vop, vNextStr]; rw [e]; simp only [lget hn hg, lset hn, hp, if_true]; exact hk
theorem y_nextStrE {x : VA} {k g pos : Nat} {t : List UInt8} (e : va env x = .iter (n + k) g) (hn : σ.length = n) (hg : vGet L k g = some (.siter t pos)) (hp : ¬ pos < t.length) : Y P n (.nextStr x) env (σ ++ L) (.tup [.bool false]) := fun K hk => by
  simp only [vop, vNextStr]; rw [e]; simp only [lget hn hg, hp, if_false]; exact hk

/-! Code. -/
variable {Q : QP} {x y : VC}
theorem sc_seq (k : vrun P n x env h (Q.then fun env h => vrun P n y env h Q)) : vrun P n (.seq x y) env h Q := k
theorem sc_region {ops : List VO} (k : vrunOps P n (fun env h => Q .normal env h) ops env h) : vrun P n (.region ops) env h Q := k
theorem sc_condT {c : VA} (e : va env c = .bool true) (k : vrun P n x env h Q) : vrun P n (.cond c x y) env h Q := by simp only [vrun]; rw [e]; exact k
theorem sc_condF {c : VA} (e : va env c = .bool false) (k : vrun P n y env h Q) : vrun P n (.cond c x y) env h Q := by simp only [vrun]; rw [e]; exact k
theorem cb {c : VA} {b : Bool} (e : va env c = .bool b) (k1 : b = true → vrun P n x env h Q) (k2 : b = false → vrun P n y env h Q) : vrun P n (.cond c x y) env h Q := by
  cases b
  · exact sc_condF e (k2 rfl)
  · exact sc_condT e (k1 rfl)
theorem cp {c : VA} {p : Prop} [hd : Decidable p] (e : va env c = .bool (decide p)) (k1 : p → vrun P n x env h Q) (k2 : ¬ p → vrun P n y env h Q) : vrun P n (.cond c x y) env h Q :=
  cb e (fun hb => k1 (of_decide_eq_true hb)) fun hb => k2 (of_decide_eq_false hb)
theorem sc_block {id : Nat} (k : vrun P n x env h (Q.block id)) : vrun P n (.block id x) env h Q := k
theorem sc_skip (k : Q .normal env h) : vrun P n .skip env h Q := k
theorem sc_exit {id : Nat} (k : Q (.exit id) env h) : vrun P n (.exit id) env h Q := k
theorem sc_ret (k : Q .ret env h) : vrun P n .ret env h Q := k
theorem sv_nil {J : VHeap → Prop} (k : K env h) : vseq P n J K [] env h := k
theorem sv_1 {J : VHeap → Prop} {o : VO} {r : List (Nat × VO)} (y : YO P n o env h v) (k : vseq P n J K r (eput env o.dst v) h) : vseq P n J K ((1, o) :: r) env h := ⟨v, y, k⟩
theorem sv_2 {J : VHeap → Prop} {o : VO} {r : List (Nat × VO)} (y : ∀ h, J h → YO P n o env h v) (k : vseq P n J K r (eput env o.dst v) h) : vseq P n J K ((2, o) :: r) env h := ⟨v, y, k⟩
theorem sv1n {J : VHeap → Prop} {op : VOp} {r : List (Nat × VO)} (y : Y P n op env h v) (k : vseq P n J K r (eput env d v) h) : vseq P n J K ((1, ⟨d, op, none⟩) :: r) env h := sv_1 (yn y) k
theorem sv1t {J : VHeap → Prop} {op : VOp} {s : Nat} {b : Bool} {r : List (Nat × VO)} (hg : env s = .bool b) (y : Y P n op env h v) (k : vseq P n J K r (eput env d v) h) : vseq P n J K ((1, ⟨d, op, some (s, b)⟩) :: r) env h := sv_1 (yt hg y) k
theorem sv1f {J : VHeap → Prop} {op : VOp} {s : Nat} {b : Bool} {r : List (Nat × VO)} (hg : env s = .bool (!b)) (k : vseq P n J K r (eput env d (.tup [])) h) : vseq P n J K ((1, ⟨d, op, some (s, b)⟩) :: r) env h := sv_1 (yf hg) k
theorem sv1u {J : VHeap → Prop} {op : VOp} {s : Nat} {b : Bool} {r : List (Nat × VO)} (hg : env s = .tup []) (k : vseq P n J K r (eput env d (.tup [])) h) : vseq P n J K ((1, ⟨d, op, some (s, b)⟩) :: r) env h := sv_1 (yu hg) k
theorem sv2n {J : VHeap → Prop} {op : VOp} {r : List (Nat × VO)} (y : ∀ h, J h → Y P n op env h v) (k : vseq P n J K r (eput env d v) h) : vseq P n J K ((2, ⟨d, op, none⟩) :: r) env h := sv_2 (fun h j => yn (y h j)) k
theorem sv2t {J : VHeap → Prop} {op : VOp} {s : Nat} {b : Bool} {r : List (Nat × VO)} (hg : env s = .bool b) (y : ∀ h, J h → Y P n op env h v) (k : vseq P n J K r (eput env d v) h) : vseq P n J K ((2, ⟨d, op, some (s, b)⟩) :: r) env h := sv_2 (fun h j => yt hg (y h j)) k
theorem sv2f {J : VHeap → Prop} {op : VOp} {s : Nat} {b : Bool} {r : List (Nat × VO)} (hg : env s = .bool (!b)) (k : vseq P n J K r (eput env d (.tup [])) h) : vseq P n J K ((2, ⟨d, op, some (s, b)⟩) :: r) env h := sv_2 (fun _ _ => yf hg) k
theorem sv2u {J : VHeap → Prop} {op : VOp} {s : Nat} {b : Bool} {r : List (Nat × VO)} (hg : env s = .tup []) (k : vseq P n J K r (eput env d (.tup [])) h) : vseq P n J K ((2, ⟨d, op, some (s, b)⟩) :: r) env h := sv_2 (fun _ _ => yu hg) k
/-- A guard that is not known, where the order is open. -/
theorem sgb {J : VHeap → Prop} {op : VOp} {k s : Nat} {b c : Bool} {r : List (Nat × VO)} (hg : env s = .bool c) (k1 : c = b → vseq P n J K ((k, ⟨d, op, none⟩) :: r) env h) (k2 : c = (!b) → vseq P n J K r (eput env d (.tup [])) h) (hJ : J h := by trivial) : vseq P n J K ((k, ⟨d, op, some (s, b)⟩) :: r) env h := by
  by_cases hc : c = b
  · have := k1 hc
    match k, this with
    | 0, this => exact gt (by rw [hg, hc]) this
    | 1, ⟨v, y, this⟩ => exact ⟨v, fun K hk => gt (by rw [hg, hc]) (y K hk), this⟩
    | k + 2, ⟨v, y, this⟩ => exact ⟨v, fun h j K hk => gt (by rw [hg, hc]) (y h j K hk), this⟩
  · have hc : c = (!b) := by cases c <;> cases b <;> simp_all
    have := k2 hc
    match k with
    | 0 => exact gf (by rw [hg, hc]) ⟨hJ, this⟩
    | 1 => exact sv1f (by rw [hg, hc]) this
    | k + 2 => exact ⟨_, fun _ _ => yf (by rw [hg, hc]), this⟩
theorem sv_0 {J : VHeap → Prop} {o : VO} {r : List (Nat × VO)} (k : vrunOps P n (fun e s => J s ∧ vseq P n J K r e s) [o] env h) : vseq P n J K ((0, o) :: r) env h := k
theorem st_end (k : K env h) : vrunOps P n K [] env h := k

end

section
variable {P : Program} {n : Nat} {env : Env} {σ L h : VHeap} {v : PV}
/-! The end of a call. -/
theorem ret_p {vf : VFun} {Post : KP} {e : VE} (he : e = .ret ∨ e = .normal) (hr : vf.raw = false) (hv : rvAll env (σ ++ L) vf.results = some v) (hp : Pl v) (hb : bel n v) (hn : σ.length = n) (hB : belH n σ) (k : Post v σ) : vend vf (TrimP n Post) e env (σ ++ L) := by
  have : vret vf.raw (rvAll env (σ ++ L) vf.results) (σ ++ L) (TrimP n Post) := by
    rw [hv, hr]
    simp only [vret, Bool.false_eq_true, if_false]
    rw [hp.pl.1]
    refine ⟨σ, L, ?_, hn, hb, hB, k⟩
    unfold frz; rw [hp.pl.2]; rfl
  rcases he with rfl | rfl <;> exact this
theorem ret_a {vf : VFun} {Post : KP} {e : VE} {v' : PV} {L' : VHeap} (he : e = .ret ∨ e = .normal) (hr : vf.raw = false) (hv : rvAll env (σ ++ L) vf.results = some v) (hi : InlA n L L [v] [v'] L') (hb : bel n v') (hn : σ.length = n) (hB : belH n σ) (k : Post v' σ) : vend vf (TrimP n Post) e env (σ ++ L) := by
  obtain ⟨e1, e2⟩ := hi.ok hn
  have : vret vf.raw (rvAll env (σ ++ L) vf.results) (σ ++ L) (TrimP n Post) := by
    rw [hv, hr]
    simp only [vret, Bool.false_eq_true, if_false]
    rw [inlL, inlL] at e1
    rw [refsL, refsL, List.append_nil] at e2
    rw [List.cons.injEq] at e1
    rw [e1.1]
    exact ⟨σ, L', e2, hn, hb, hB, k⟩
  rcases he with rfl | rfl <;> exact this
theorem ret_t {vf : VFun} {Post : KP} {e : VE} {xs vs : List PV} {L' : VHeap} (he : e = .ret ∨ e = .normal) (hr : vf.raw = false) (hv : rvAll env (σ ++ L) vf.results = some (.tup xs)) (hi : InlA n L L xs vs L') (hb : belL n vs) (hn : σ.length = n) (hB : belH n σ) (k : Post (.tup vs) σ) : vend vf (TrimP n Post) e env (σ ++ L) := by
  obtain ⟨e1, e2⟩ := hi.ok hn
  have : vret vf.raw (rvAll env (σ ++ L) vf.results) (σ ++ L) (TrimP n Post) := by
    rw [hv, hr]
    simp only [vret, Bool.false_eq_true, if_false]
    rw [inl, e1]
    exact ⟨σ, L', e2, hn, hb, hB, k⟩
  rcases he with rfl | rfl <;> exact this
theorem ret_n {vf : VFun} {Post : KP} {e : VE} (he : e = .ret ∨ e = .normal) (hr : vf.raw = false) (hv : rvAll env h vf.results = some v) (hp : Pl v) (k : Post v h) : vend vf Post e env h := by
  have hk : vret vf.raw (rvAll env h vf.results) h Post := by
    rw [hv, hr]
    simp only [vret, Bool.false_eq_true, if_false]
    have h1 : inl h v = v := hp.pl.1 h
    have h2 : refs v = [] := hp.pl.2
    rw [h1, frz, h2]
    exact k
  rcases he with rfl | rfl <;> exact hk
theorem ret_raw {vf : VFun} {Post : KP} {e : VE} (he : e = .ret ∨ e = .normal) (hr : vf.raw = true) (hv : rvAll env h vf.results = some v) (k : Post v h) : vend vf Post e env h := by
  have : vret vf.raw (rvAll env h vf.results) h Post := by rw [hv, hr]; exact k
  rcases he with rfl | rfl <;> exact this
theorem T.walk [Glob] {f : FuncId} {fn : Func} {raw : FuncId → Bool} {rw' : Bool} {vf : VFun} {args : List PV} {Post : KP} {L0 : VHeap} (hf : P.funcs[f]? = some fn) (hc : cFun P raw rw' fn = some vf) (hl : args.length ≤ vf.ntmps) (hL : vdead vf.nsites = L0)
    (hh : belH σ.length σ → (∀ c, c ∈ args → bel σ.length c) → vrun P σ.length vf.body (argsEnv args) (σ ++ L0) (vend vf (TrimP σ.length Post))) : T P f args σ Post :=
  T.start fun hB hA => T_of hf hc ⟨hl, by rw [hL]; exact hh hB hA⟩
theorem T.walkR [Glob] {f : FuncId} {fn : Func} {raw : FuncId → Bool} {rw' : Bool} {vf : VFun} {args : List PV} {Post : KP} {L0 : VHeap} (hf : P.funcs[f]? = some fn) (hc : cFun P raw rw' fn = some vf) (hl : args.length ≤ vf.ntmps) (hL : vdead vf.nsites = L0)
    (hh : vrun P σ.length vf.body (argsEnv args) (σ ++ L0) (vend vf Post)) : T P f args σ Post :=
  T_of hf hc ⟨hl, by rw [hL]; exact hh⟩
end
end Go.V
