/- The frame; what an operation must do; what a call does. -/
import Derived.Test.YtdkjcadffhnjgaaDoorV2
namespace Go.V
open Go

inductive VA where
  | t (i : Nat)
  | c (v : PV)
  deriving Inhabited

/-- The package-level tables that are known: what lies in each; which functions leave the heap alone (a hint for orders that are open, no more). -/
class Glob where
  tab : Nat → Option (List PV)
  still : FuncId → Bool
def GloRep [Glob] (w : World) (σ : VHeap) (β : Beta) : Prop := ∀ (g : Nat) (cells : List PV), Glob.tab g = some cells → ∃ f, Still w σ β ⟨g, 0, none⟩ cells.length f ∧ (∀ (j : Nat) (c : PV), cells[j]? = some c → Rep w σ β c (f j)) ∧ ∃ arr ty fr, w.heap[g]? = some (.cells arr ty fr) ∧ arr.size = cells.length
theorem GloRep.step [Glob] {w σ β σ' β' w'} (h : GloRep w σ β) (hs : Step σ β w σ' β' w') : GloRep w' σ' β' := fun g cells e =>
  let ⟨f, h1, h2, arr, ty, fr, h3, h4⟩ := h g cells e
  let ⟨arr', h5, h6⟩ := hs.shape g arr ty fr h3
  ⟨f, h1.step hs, fun j c hj => (h2 j c hj).step hs, arr', ty, fr, h5, h6.trans h4⟩

abbrev Env := Nat → PV
def va (env : Env) : VA → PV
  | .t i => env i
  | .c v => v

def cpv : Value → Option PV
  | .bool b => some (.bool b)
  | .int k n => some (.int k n)
  | .string s => some (.str s.data.toList)
  | .pointer none => some .nilp
  | .slice none 0 0 => some .nils
  | .map none => some .nilm
  | _ => some .undef
def cA [Glob] : Operand → Option VA
  | .tmp t => some (.t t)
  | .const v => (cpv v).map .c
  | .func f => some (.c (.fn f []))
  | .global g => (Glob.tab g).map fun cells => .c (.iptr cells 0)

structure FrameRep [Glob] (w : World) (σ : VHeap) (β : Beta) (env : Env) (a : Act) : Prop where
  defers : a.defers = []
  rep : ∀ i : Nat, Rep w σ β (env i) (a.tmps.getD i Go.undef)
  glo : GloRep w σ β

theorem cpv_rep {w σ β v c} (h : cpv v = some c) : Rep w σ β c v := by
  unfold cpv at h
  split at h <;> first | cases h | skip
  · exact .bool _
  · exact .int _ _
  · exact .str _
  · exact .nilp
  · exact .nils
  · exact .nilm
  · exact .undef _

theorem FrameRep.eval [Glob] {w σ β env a} (h : FrameRep w σ β env a) {o : Operand} {x : VA} (hx : cA o = some x) : Rep w σ β (va env x) (a.eval o) := by
  unfold cA at hx
  split at hx
  · rename_i t
    cases hx
    exact h.rep t
  · rename_i v
    cases hc : cpv v with
    | none => rw [hc] at hx; cases hx
    | some c => rw [hc] at hx; cases hx; exact cpv_rep hc
  · cases hx
    exact .fn _ [] #[] rfl (by simp)
  · rename_i g
    cases hc : Glob.tab g with
    | none => rw [hc] at hx; cases hx
    | some cells =>
      rw [hc] at hx; cases hx
      obtain ⟨f, h1, h2, _⟩ := h.glo g cells hc
      exact .iptr cells 0 _ _ f (add_zero _).symm h1 h2

theorem FrameRep.step [Glob] {w σ β env a w' σ' β'} (h : FrameRep w σ β env a) (hs : Step σ β w σ' β' w') : FrameRep w' σ' β' env a :=
  ⟨h.defers, fun i => (h.rep i).step hs, h.glo.step hs⟩

def eput (env : Env) (d : Option Nat) (r : PV) : Env := match d with | some d => fun i => cond (Nat.beq i d) r (env i) | none => env

theorem FrameRep.put [Glob] {w σ β env a} (h : FrameRep w σ β env a) {d : Option Nat} {r : PV} {v : Value} (hd : ∀ d', d = some d' → d' < a.tmps.size) (hr : Rep w σ β r v) : FrameRep w σ β (eput env d r) (a.put d v) := by
  cases d with
  | none => exact h
  | some d =>
    refine ⟨h.defers, fun i => ?_, h.glo⟩
    simp only [eput, Act.put]
    by_cases e : i = d
    · subst e
      rw [Nat.beq_refl, cond_true, Array.getD_eq_getD_getElem?, Array.getElem?_setIfInBounds_self_of_lt (hd i rfl)]
      exact hr
    · rw [show Nat.beq i d = false from by cases h : Nat.beq i d with | false => rfl | true => exact (e (Nat.eq_of_beq_eq_true h)).elim, cond_false, Array.getD_eq_getD_getElem?, Array.getElem?_setIfInBounds_ne (Ne.symm e), ← Array.getD_eq_getD_getElem?]
      exact h.rep i

abbrev KP := PV → VHeap → Prop

/-- What an operation must do: its value, its heap. -/
def OpS (P : Program) (o : Oper) (a : Act) (σ : VHeap) (β : Beta) (w : World) (K : KP) : Prop :=
  ∀ (N : Act → World → Prop) (Q : Exit → Act → World → Prop), (∀ v w' r σ' β', K r σ' → Rep w' σ' β' r v → Sim σ' β' w' → Step σ β w σ' β' w' → N (a.put o.dst v) w') → o.wp P a w N Q

theorem OpS.value {P o a σ β w} {K : KP} {v : Value} {w' : World} {r : PV} {σ' : VHeap} {β' : Beta} (h : (execOp a.eval o).run P w = .ok (.value v) w') (hk : K r σ')
    (hr : Rep w' σ' β' r v) (hs : Sim σ' β' w') (ht : Step σ β w σ' β' w') : OpS P o a σ β w K := by
  intro N Q hN
  unfold Oper.wp
  rw [h]
  exact hN v w' r σ' β' hk hr hs ht

theorem OpS.skip {P o a σ β w} {K : KP} {w' : World} {σ' : VHeap} {β' : Beta} (h : (execOp a.eval o).run P w = .ok .skip w') (hk : K .undef σ')
    (hs : Sim σ' β' w') (ht : Step σ β w σ' β' w') : OpS P o a σ β w K := by
  intro N Q hN
  unfold Oper.wp
  rw [h]
  exact hN undef w' .undef σ' β' hk (.undef _) hs ht

/-- WHAT A CALL DOES: from any world that bears the arguments and the heap it comes back with a value and a heap of which 'Post' holds. -/
def T [Glob] (P : Program) (f : FuncId) (args : List PV) (σ : VHeap) (Post : KP) : Prop :=
  ∀ (w : World) (β : Beta) (vs : Array Value), vs.size = args.length → (∀ (i : Nat) (c : PV) (v : Value), args[i]? = some c → vs[i]? = some v → Rep w σ β c v) → Sim σ β w → GloRep w σ β →
    Calls P f vs w fun e w' => ∃ v r σ' β', e = .returned v ∧ Post r σ' ∧ Rep w' σ' β' r v ∧ Sim σ' β' w' ∧ Step σ β w σ' β' w'

theorem T.mono [Glob] {P f args σ} {Post Post' : KP} (h : T P f args σ Post) (k : ∀ r σ', Post r σ' → Post' r σ') : T P f args σ Post' :=
  fun w β vs h1 h2 h3 h4 => (h w β vs h1 h2 h3 h4).mono fun _ _ ⟨v, r, σ', β', e1, e2, e3, e4, e5⟩ => ⟨v, r, σ', β', e1, k r σ' e2, e3, e4, e5⟩

theorem OpS.enter [Glob] {P o a σ β w} {K : KP} {f : FuncId} {vs : Array Value} {args : List PV} (h : (execOp a.eval o).run P w = .ok (.enter f vs) w) (hT : T P f args σ K)
    (hl : vs.size = args.length) (hr : ∀ (i : Nat) (c : PV) (v : Value), args[i]? = some c → vs[i]? = some v → Rep w σ β c v) (hs : Sim σ β w) (hg : GloRep w σ β) : OpS P o a σ β w K := by
  intro N Q hN
  unfold Oper.wp
  rw [h]
  refine (hT w β vs hl hr hs hg).mono ?_
  rintro e w' ⟨v, r, σ', β', rfl, e2, e3, e4, e5⟩
  exact hN v w' r σ' β' e2 e3 e4 e5

theorem OpS.pre {P o a σ β w σ1} {K : KP} (h : Step σ β w σ1 β w) (k : OpS P o a σ1 β w K) : OpS P o a σ β w K :=
  fun N Q hN => k N Q fun v w' r σ' β' h1 h2 h3 h4 => hN v w' r σ' β' h1 h2 h3 (h.trans h4)

/-- The cells of a value. -/
def pcells : PV → List PV
  | .agg cs => cs
  | v => [v]

/-! ### The operations, as the small language has them. -/

def vMov (x : PV) (σ : VHeap) (K : KP) : Prop := K x σ
def vSnap (x : PV) (σ : VHeap) (K : KP) : Prop :=
  match x with
  | .row id g => match σ[id]? with
    | some (g', .row _ es _) => g' = g ∧ K (.slr es id g) (frzId σ id)
    | _ => False
  | _ => False
def vPick (c a b : PV) (σ : VHeap) (K : KP) : Prop :=
  match c with
  | .bool true => K a σ
  | .bool false => K b σ
  | _ => False
/-- A new object at a place. -/
def vNew (id : Nat) (o : VObj) (σ : VHeap) (K : Nat → VHeap → Prop) : Prop :=
  match σ[id]? with
  | some (g, _) => K (g + 1) (σ.set id (g + 1, o))
  | none => False
def vAlloc (id : Nat) (zero : List PV) (σ : VHeap) (K : KP) : Prop := vNew id (.box zero false) σ fun g σ => K (.ptr id g 0) σ
def vGet (σ : VHeap) (id g : Nat) : Option VObj :=
  match σ[id]? with
  | some (g', o) => if g' = g then some o else none
  | none => none
theorem vGet_some {σ : VHeap} {id g : Nat} {o : VObj} (h : vGet σ id g = some o) : σ[id]? = some (g, o) := by
  unfold vGet at h
  split at h
  · rename_i g' o' h1
    split at h
    · rename_i e; cases h; rw [h1, e]
    · cases h
  · cases h

/-- What lies in a row of cells from a place on: one cell, or so many as a value. -/
def cut (cs : List PV) (off : Nat) : Option Nat → Option PV
  | none => cs[off]?
  | some n => if off + n ≤ cs.length then some (.agg ((cs.drop off).take n)) else none
def vLoad (sz : Option Nat) (x : PV) (σ : VHeap) (K : KP) : Prop :=
  match x with
  | .ptr id g off => match vGet σ id g with
    | some (.box cs _) => match cut cs off sz with | some c => K c σ | none => False
    | _ => False
  | .rptr id g i off => match vGet σ id g with
    | some (.row _ es _) => match es[i]? with
      | some e => match cut e off sz with | some c => K c σ | none => False
      | none => False
    | _ => False
  | .iptr cs off => match cut cs off sz with | some c => K c σ | none => False
  | _ => False
def splice (cs : List PV) (off : Nat) (vs : List PV) : List PV := cs.take off ++ vs ++ cs.drop (off + vs.length)
def scalar : PV → Bool
  | .agg _ => false
  | .tup _ => false
  | .undef => false
  | .fn _ _ => false
  | .slr _ _ _ => false
  | _ => true
def vStore (sz : Nat) (x v : PV) (σ : VHeap) (K : KP) : Prop :=
  (pcells v).length = sz ∧ (pcells v).all scalar = true ∧
  match x with
  | .ptr id g off => match vGet σ id g with
    | some (.box cs false) => off + sz ≤ cs.length ∧ K .undef (σ.set id (g, .box (splice cs off (pcells v)) false))
    | _ => False
  | .rptr id g i off => match vGet σ id g with
    | some (.row s es false) => match es[i]? with
      | some e => off + sz ≤ e.length ∧ K .undef (σ.set id (g, .row s (es.set i (splice e off (pcells v))) false))
      | none => False
    | _ => False
  | _ => False
def vNilCheck (x : PV) (σ : VHeap) (K : KP) : Prop :=
  match x with
  | .ptr id g _ => (∃ o, vGet σ id g = some o) ∧ K x σ
  | .rptr id g _ _ => (∃ o, vGet σ id g = some o) ∧ K x σ
  | .iptr _ _ => K x σ
  | _ => False
def vField (off : Nat) (x : PV) (σ : VHeap) (K : KP) : Prop :=
  match x with
  | .ptr id g o => (∃ o, vGet σ id g = some o) ∧ K (.ptr id g (o + off)) σ
  | .rptr id g i o => (∃ o, vGet σ id g = some o) ∧ K (.rptr id g i (o + off)) σ
  | .iptr cs o => K (.iptr cs (o + off)) σ
  | _ => False
def vExtract (k : Nat) (x : PV) (σ : VHeap) (K : KP) : Prop :=
  match x with
  | .tup vs => match vs[k]? with | some v => K v σ | none => False
  | _ => False

end Go.V
