/- Runs of closed calls: the small language as a function that the kernel reckons. -/
import Derived.Test.YtdkjcadffhnjgaaDoorVS
namespace Go.V
open Go

/-! ### Equality. -/
def eqL (f : PV → PV → Bool) : List PV → List PV → Bool
  | [], [] => true
  | a :: as, b :: bs => f a b && eqL f as bs
  | _, _ => false
def eqLL (f : PV → PV → Bool) : List (List PV) → List (List PV) → Bool
  | [], [] => true
  | a :: as, b :: bs => eqL f a b && eqLL f as bs
  | _, _ => false
def eqPV : Nat → PV → PV → Bool
  | 0, _, _ => false
  | k + 1, a, b => match a, b with
    | .bool x, .bool y => x == y
    | .int k1 x, .int k2 y => decide (k1 = k2) && decide (x = y)
    | .str s, .str t => decide (s = t)
    | .agg cs, .agg ds => eqL (eqPV k) cs ds
    | .tup cs, .tup ds => eqL (eqPV k) cs ds
    | .nilp, .nilp => true
    | .ptr i g o, .ptr i' g' o' => Nat.beq i i' && Nat.beq g g' && Nat.beq o o'
    | .rptr i g x o, .rptr i' g' x' o' => Nat.beq i i' && Nat.beq g g' && Nat.beq x x' && Nat.beq o o'
    | .iptr cs o, .iptr ds o' => eqL (eqPV k) cs ds && Nat.beq o o'
    | .sl es, .sl fs => eqLL (eqPV k) es fs
    | .nils, .nils => true
    | .row i g, .row i' g' => Nat.beq i i' && Nat.beq g g'
    | .bview i g o l, .bview i' g' o' l' => Nat.beq i i' && Nat.beq g g' && Nat.beq o o' && Nat.beq l l'
    | .rview i g o l, .rview i' g' o' l' => Nat.beq i i' && Nat.beq g g' && Nat.beq o o' && Nat.beq l l'
    | .map i g, .map i' g' => Nat.beq i i' && Nat.beq g g'
    | .nilm, .nilm => true
    | .fn f c, .fn f' c' => Nat.beq f f' && eqL (eqPV k) c c'
    | .iter i g, .iter i' g' => Nat.beq i i' && Nat.beq g g'
    | .undef, .undef => true
    | _, _ => false
theorem eqL_ok {f : PV → PV → Bool} (h : ∀ a b, f a b = true → a = b) : ∀ as bs, eqL f as bs = true → as = bs
  | [], [], _ => rfl
  | a :: as, b :: bs, e => by
    rw [eqL, Bool.and_eq_true] at e
    rw [h a b e.1, eqL_ok h as bs e.2]
  | [], _ :: _, e => by cases e
  | _ :: _, [], e => by cases e
theorem eqLL_ok {f : PV → PV → Bool} (h : ∀ a b, f a b = true → a = b) : ∀ as bs, eqLL f as bs = true → as = bs
  | [], [], _ => rfl
  | a :: as, b :: bs, e => by
    rw [eqLL, Bool.and_eq_true] at e
    rw [eqL_ok h a b e.1, eqLL_ok h as bs e.2]
  | [], _ :: _, e => by cases e
  | _ :: _, [], e => by cases e
theorem eqPV_ok : ∀ (k : Nat) (a b : PV), eqPV k a b = true → a = b := by
  intro k
  induction k with
  | zero => intro a b h; cases h
  | succ k ih =>
    intro a b h
    unfold eqPV at h
    split at h
    all_goals first
      | rfl
      | (rw [eqL_ok ih _ _ h])
      | (rw [eqLL_ok ih _ _ h])
      | (simp only [Bool.and_eq_true, Nat.beq_eq, decide_eq_true_eq, beq_iff_eq] at h; first | (obtain ⟨⟨⟨rfl, rfl⟩, rfl⟩, rfl⟩ := h; rfl) | (obtain ⟨⟨rfl, rfl⟩, rfl⟩ := h; rfl) | (obtain ⟨rfl, rfl⟩ := h; rfl) | (subst h; rfl) | (rw [eqL_ok ih _ _ h]) | (rw [eqLL_ok ih _ _ h]) | (obtain ⟨h1, rfl⟩ := h; rw [eqL_ok ih _ _ h1]) | (obtain ⟨rfl, h1⟩ := h; rw [eqL_ok ih _ _ h1]))
      | cases h
def eqEnts (f : PV → PV → Bool) : Ents → Ents → Bool
  | [], [] => true
  | a :: as, b :: bs => f a.1 b.1 && f a.2.1 b.2.1 && Nat.beq a.2.2 b.2.2 && eqEnts f as bs
  | _, _ => false
theorem eqEnts_ok {f : PV → PV → Bool} (h : ∀ a b, f a b = true → a = b) : ∀ as bs, eqEnts f as bs = true → as = bs
  | [], [], _ => rfl
  | (a1, a2, a3) :: as, (b1, b2, b3) :: bs, e => by
    simp only [eqEnts, Bool.and_eq_true, Nat.beq_eq] at e
    rw [h _ _ e.1.1.1, h _ _ e.1.1.2, e.1.2, eqEnts_ok h as bs e.2]
  | [], _ :: _, e => by cases e
  | _ :: _, [], e => by cases e
def eqO : VObj → VObj → Bool
  | .dead, .dead => true
  | .box cs f, .box ds f' => eqL (eqPV 9) cs ds && f == f'
  | .row s es f, .row s' es' f' => Nat.beq s s' && eqLL (eqPV 9) es es' && f == f'
  | .map es c, .map es' c' => eqEnts (eqPV 9) es es' && Nat.beq c c'
  | .siter s p, .siter s' p' => decide (s = s') && Nat.beq p p'
  | _, _ => false
theorem eqO_ok (a b : VObj) (h : eqO a b = true) : a = b := by
  unfold eqO at h
  split at h
  all_goals first
    | rfl
    | (simp only [Bool.and_eq_true, Nat.beq_eq, decide_eq_true_eq, beq_iff_eq] at h; first | (obtain ⟨h1, rfl⟩ := h; rw [eqL_ok (eqPV_ok 9) _ _ h1]) | (obtain ⟨⟨rfl, h1⟩, rfl⟩ := h; rw [eqLL_ok (eqPV_ok 9) _ _ h1]) | (obtain ⟨h1, rfl⟩ := h; rw [eqEnts_ok (eqPV_ok 9) _ _ h1]) | (obtain ⟨rfl, rfl⟩ := h; rfl))
    | cases h
def eqH : VHeap → VHeap → Bool
  | [], [] => true
  | a :: as, b :: bs => Nat.beq a.1 b.1 && eqO a.2 b.2 && eqH as bs
  | _, _ => false
theorem eqH_ok : ∀ as bs, eqH as bs = true → as = bs
  | [], [], _ => rfl
  | (a1, a2) :: as, (b1, b2) :: bs, e => by
    simp only [eqH, Bool.and_eq_true, Nat.beq_eq] at e
    rw [e.1.1, eqO_ok _ _ e.1.2, eqH_ok as bs e.2]
  | [], _ :: _, e => by cases e
  | _ :: _, [], e => by cases e

/-! ### What leads to no place from one on; what leads nowhere. -/
def belB (n : Nat) : Nat → PV → Bool
  | 0, _ => false
  | k + 1, c => match c with
    | .agg cs => cs.all (belB n k)
    | .tup cs => cs.all (belB n k)
    | .ptr id _ _ => Nat.blt id n
    | .rptr id _ _ _ => Nat.blt id n
    | .row id _ => Nat.blt id n
    | .bview id _ _ _ => Nat.blt id n
    | .rview id _ _ _ => Nat.blt id n
    | .map id _ => Nat.blt id n
    | .iter id _ => Nat.blt id n
    | .iptr cs _ => cs.all (belB n k)
    | .sl es => es.all fun e => e.all (belB n k)
    | .fn _ cap => cap.all (belB n k)
    | .slr es id _ => (es.all fun e => e.all (belB n k)) && Nat.blt id n
    | _ => true
theorem blt_lt {a b : Nat} (h : Nat.blt a b = true) : a < b := Nat.le_of_ble_eq_true h
theorem belB_ok {n : Nat} : ∀ (k : Nat) (c : PV), belB n k c = true → bel n c := by
  intro k
  induction k with
  | zero => intro c h; cases h
  | succ k ih =>
    intro c h
    have hL : ∀ cs : List PV, cs.all (belB n k) = true → belL n cs := fun cs h => belL_iff.2 fun x hx => ih x (List.all_eq_true.1 h x hx)
    have hLL : ∀ es : List (List PV), (es.all fun e => e.all (belB n k)) = true → belLL n es := fun es h => belLL_iff.2 fun e he => hL e (List.all_eq_true.1 h e he)
    cases c <;> simp only [belB] at h <;> simp only [bel] <;> first | trivial | exact blt_lt h | exact hL _ h | exact hLL _ h | (rw [Bool.and_eq_true] at h; exact ⟨hLL _ h.1, blt_lt h.2⟩)
def belOB (n : Nat) : VObj → Bool
  | .box cs _ => cs.all (belB n 9)
  | .row _ es _ => es.all fun e => e.all (belB n 9)
  | .map es _ => es.all fun e => belB n 9 e.1 && belB n 9 e.2.1
  | .miter m _ _ _ _ => Nat.blt m n
  | _ => true
theorem belOB_ok {n : Nat} (o : VObj) (h : belOB n o = true) : belO n o := by
  cases o <;> simp only [belOB] at h <;> simp only [belO]
  · exact belL_iff.2 fun x hx => belB_ok 9 x (List.all_eq_true.1 h x hx)
  · exact belLL_iff.2 fun e he => belL_iff.2 fun x hx => belB_ok 9 x (List.all_eq_true.1 (List.all_eq_true.1 h e he) x hx)
  · intro e he
    have := List.all_eq_true.1 h e he
    rw [Bool.and_eq_true] at this
    exact ⟨belB_ok 9 _ this.1, belB_ok 9 _ this.2⟩
  · exact blt_lt h
/-- Values that hang on no memory. -/
def flatB : Nat → PV → Bool
  | 0, _ => false
  | k + 1, c => match c with
    | .agg cs => cs.all (flatB k)
    | .tup cs => cs.all (flatB k)
    | .bool _ => true
    | .int _ _ => true
    | .str _ => true
    | .nilp => true
    | .nilm => true
    | _ => false
theorem flat_rep {w : World} {σ σ' : VHeap} {β β' : Beta} : ∀ (k : Nat) (c : PV) (v : Value), flatB k c = true → Rep w σ β c v → Rep w σ' β' c v := by
  intro k
  induction k with
  | zero => intro c v h; cases h
  | succ k ih =>
    intro c v h hr
    cases hr <;> simp only [flatB] at h <;> first | (cases h; done) | skip
    · exact .bool _
    · exact .int _ _
    · exact .str _
    · rename_i cs vs hl hh
      exact .agg cs vs hl fun i c v h1 h2 => ih c v (List.all_eq_true.1 h c (List.mem_of_getElem? h1)) (hh i c v h1 h2)
    · rename_i cs vs hl hh
      exact .tup cs vs hl fun i c v h1 h2 => ih c v (List.all_eq_true.1 h c (List.mem_of_getElem? h1)) (hh i c v h1 h2)
    · exact .nilp
    · exact .nilm

/-! ### Operations. -/
def tenv (E : List PV) : Env := fun i => (E[i]?).getD (.tup [])
def xnew (id : Nat) (o : VObj) (σ : VHeap) : Option (Nat × VHeap) :=
  match σ[id]? with
  | some (g, _) => some (g + 1, σ.set id (g + 1, o))
  | none => none
theorem xnew_ok {id : Nat} {o : VObj} {σ : VHeap} {q : Nat × VHeap} (h : xnew id o σ = some q) {K : Nat → VHeap → Prop} (k : K q.1 q.2) : vNew id o σ K := by
  unfold xnew at h
  unfold vNew
  split at h
  · cases h; simp only [*]
  · cases h
def xeq (op : BinOp) (r : Bool) : Option PV :=
  match op with
  | .eql => some (.bool r)
  | .neq => some (.bool !r)
  | _ => none
theorem xeq_ok {op : BinOp} {r : Bool} {v : PV} (h : xeq op r = some v) {σ : VHeap} {K : KP} (k : K v σ) : eqK op r σ K := by
  unfold xeq at h; unfold eqK
  split at h <;> first | (cases h; exact k) | cases h
def xbin (op : BinOp) (t : BT) (x y : PV) (σ : VHeap) : Option PV :=
  match x, y with
  | .int k a, .int k' b => ibin op k a k' b
  | .str a, .str b => sbin op a b
  | .bool a, .bool b => if t = .bool then xeq op (a == b) else none
  | .nilp, .nilp => if t = .ptr then xeq op true else none
  | .ptr id g _, .nilp => if t = .ptr ∧ (vGet σ id g).isSome = true then xeq op false else none
  | .nils, .nils => if t = .slice then xeq op true else none
  | .sl (_ :: _), .nils => if t = .slice then xeq op false else none
  | _, _ => none
theorem xbin_ok {op : BinOp} {t : BT} {x y : PV} {σ : VHeap} {v : PV} (h : xbin op t x y σ = some v) {K : KP} (k : K v σ) : vBin op t x y σ K := by
  unfold xbin at h
  split at h
  · simp only [vBin, h]; exact k
  · simp only [vBin, h]; exact k
  · split at h
    · rename_i ht; exact ⟨ht, xeq_ok h k⟩
    · cases h
  · split at h
    · rename_i ht; exact ⟨ht, xeq_ok h k⟩
    · cases h
  · split at h
    · rename_i ht; exact ⟨ht.1, Option.isSome_iff_exists.1 ht.2, xeq_ok h k⟩
    · cases h
  · split at h
    · rename_i ht; exact ⟨ht, xeq_ok h k⟩
    · cases h
  · split at h
    · rename_i ht; exact ⟨ht, xeq_ok h k, fun e => by cases e⟩
    · cases h
  · cases h
def xfield (off : Nat) (x : PV) (σ : VHeap) : Option PV :=
  match x with
  | .ptr id g o => if (vGet σ id g).isSome = true then some (.ptr id g (o + off)) else none
  | .rptr id g i o => if (vGet σ id g).isSome = true then some (.rptr id g i (o + off)) else none
  | .iptr cs o => some (.iptr cs (o + off))
  | _ => none
theorem xfield_ok {off : Nat} {x : PV} {σ : VHeap} {v : PV} (h : xfield off x σ = some v) {K : KP} (k : K v σ) : vField off x σ K := by
  unfold xfield at h
  split at h
  · split at h
    · rename_i hs; cases h; exact ⟨Option.isSome_iff_exists.1 hs, k⟩
    · cases h
  · split at h
    · rename_i hs; cases h; exact ⟨Option.isSome_iff_exists.1 hs, k⟩
    · cases h
  · cases h; exact k
  · cases h

abbrev XC := FuncId → List PV → VHeap → Option (PV × VHeap)
abbrev XE := FuncId → List PV → Option PV
def xlook (call : XC) (ext : XE) (E : List PV) (σ : VHeap) : VOp → Option PV
  | .mov x => some (va (tenv E) x)
  | .pick c x y => match va (tenv E) c with
    | .bool true => some (va (tenv E) x)
    | .bool false => some (va (tenv E) y)
    | _ => none
  | .build zero parts => match vFill zero (parts.map fun q => (q.1, q.2.1, va (tenv E) q.2.2)) with
    | some cs => some (.agg cs)
    | none => none
  | .load sz x => match va (tenv E) x with
    | .ptr id g off => match vGet σ id g with
      | some (.box cs _) => cut cs off sz
      | _ => none
    | .rptr id g i off => match vGet σ id g with
      | some (.row _ es _) => match es[i]? with
        | some e => cut e off sz
        | none => none
      | _ => none
    | .iptr cs off => cut cs off sz
    | _ => none
  | .nilCheck x => match va (tenv E) x with
    | .ptr id g o => if (vGet σ id g).isSome = true then some (.ptr id g o) else none
    | .rptr id g i o => if (vGet σ id g).isSome = true then some (.rptr id g i o) else none
    | .iptr cs o => some (.iptr cs o)
    | _ => none
  | .bin op t x y => xbin op t (va (tenv E) x) (va (tenv E) y) σ
  | .un op x => match op, va (tenv E) x with
    | .neg, .int k n => some (.int k (k.wrap (0 - n)))
    | .xor, .int k n => ibits .xor k (if k.signed then -1 else k.max) n
    | .not, .bool b => some (.bool !b)
    | _, _ => none
  | .convInt k x => match va (tenv E) x with
    | .int _ n => some (.int k (k.wrap n))
    | _ => none
  | .convStr x => match va (tenv E) x with
    | .str s => some (.str s)
    | _ => none
  | .b2s x => match rd σ (va (tenv E) x) with
    | some es => match es.mapM byteOf with
      | some bs => some (.str bs)
      | none => none
    | none => none
  | .func f caps => some (.fn f (caps.map (va (tenv E))))
  | .sliceStr x lo hi => match va (tenv E) x with
    | .str s => match bound (lo.map (va (tenv E))) 0, bound (hi.map (va (tenv E))) s.length with
      | some l, some h => if l ≤ h ∧ h ≤ s.length then some (.str ((s.drop l).take (h - l))) else none
      | _, _ => none
    | _ => none
  | .slice sz x lo hi => match va (tenv E) x with
    | .sl es => match bound (lo.map (va (tenv E))) 0, bound (hi.map (va (tenv E))) es.length with
      | some l, some h => if l ≤ h ∧ h ≤ es.length ∧ (es.all fun e => Nat.beq e.length sz) = true then some (.sl ((es.drop l).take (h - l))) else none
      | _, _ => none
    | .nils => match bound (lo.map (va (tenv E))) 0, bound (hi.map (va (tenv E))) 0 with
      | some 0, some 0 => some .nils
      | _, _ => none
    | .bview id g off len => match bound (lo.map (va (tenv E))) 0, bound (hi.map (va (tenv E))) len with
      | some l, some h => if sz = 1 ∧ (vGet σ id g).isSome = true ∧ l ≤ h ∧ h ≤ len then some (.bview id g (off + l) (h - l)) else none
      | _, _ => none
    | _ => none
  | .sliceArr n sz x lo hi => match va (tenv E) x with
    | .ptr id g off => match vGet σ id g with
      | some (.box cs _) => match bound (lo.map (va (tenv E))) 0, bound (hi.map (va (tenv E))) n with
        | some l, some h => if sz = 1 ∧ off + n ≤ cs.length ∧ l ≤ h ∧ h ≤ n then some (.bview id g (off + l) (h - l)) else none
        | _, _ => none
      | _ => none
    | _ => none
  | .field off x => xfield off (va (tenv E) x) σ
  | .fieldVal off r x => match va (tenv E) x with
    | .agg cs => cut cs off r
    | _ => none
  | .index sz x i => match va (tenv E) x, va (tenv E) i with
    | .sl es, .int _ i => if 0 ≤ i then match es[i.toNat]? with
      | some e => if e.length = sz then some (.iptr e 0) else none
      | none => none
      else none
    | .row id g, .int _ i => match vGet σ id g with
      | some (.row s es _) => if s = sz ∧ 0 ≤ i ∧ i < es.length then some (.rptr id g i.toNat 0) else none
      | _ => none
    | .bview id g off len, .int _ i => if sz = 1 ∧ (vGet σ id g).isSome = true ∧ 0 ≤ i ∧ i < len then some (.ptr id g (off + i.toNat)) else none
    | _, _ => none
  | .indexArr n sz x i => match va (tenv E) i with
    | .int _ i => if 0 ≤ i ∧ i < n then xfield (i.toNat * sz) (va (tenv E) x) σ else none
    | _ => none
  | .indexStr x i => match va (tenv E) x, va (tenv E) i with
    | .str s, .int _ i => if 0 ≤ i then match s[i.toNat]? with
      | some b => some (.int .u8 b.toNat)
      | none => none
      else none
    | _, _ => none
  | .indexAgg n sz r x i => match va (tenv E) x, va (tenv E) i with
    | .agg cs, .int _ i => if 0 ≤ i ∧ i < n then cut cs (i.toNat * sz) r else none
    | _, _ => none
  | .extract k x => match va (tenv E) x with
    | .tup vs => vs[k]?
    | _ => none
  | .lookup b zero ok x k => if keyV b (va (tenv E) k) = true then match va (tenv E) x with
    | .map id g => match vGet σ id g with
      | some (.map es _) => match look (va (tenv E) k) es with
        | some (some (_, v, _)) => some (if ok then .tup [v, .bool true] else v)
        | some none => some (if ok then .tup [zero, .bool false] else zero)
        | none => none
      | _ => none
    | _ => none
    else none
  | .call raw f args => match (if raw then call f (args.map (va (tenv E))) σ else call f (inlArgs σ (args.map (va (tenv E)))) (frzArgs σ (args.map (va (tenv E))))) with
    | some (v, σ') => if eqH σ' σ = true then some v else none
    | none => none
  | .ext f args => match ext f (inlArgs σ (args.map (va (tenv E)))) with
    | some v => if eqH (frzArgs σ (args.map (va (tenv E)))) σ = true then some v else none
    | none => none
  | .len x => match rd σ (va (tenv E) x) with
    | some es => some (.int .i64 es.length)
    | none => none
  | .lenStr x => match va (tenv E) x with
    | .str s => some (.int .i64 s.length)
    | _ => none
  | .lenMap x => match va (tenv E) x with
    | .map id g => match vGet σ id g with
      | some (.map es _) => some (.int .i64 es.length)
      | _ => none
    | _ => none
  | .minmax mx x y => match va (tenv E) x, va (tenv E) y with
    | .int k a, .int k' b => if k = k' then some (.int k (if mx then (if a < b then b else a) else (if b < a then b else a))) else none
    | _, _ => none
  | .eqAgg ks ne x y => match va (tenv E) x, va (tenv E) y with
    | .agg cs, .agg ds => match eqCells ks cs ds with
      | some r => some (.bool (if ne then !r else r))
      | none => none
    | _, _ => none
  | .sliceV sz x lo hi => match va (tenv E) x with
    | .row id g => match vGet σ id g with
      | some (.row s es _) => match bound (lo.map (va (tenv E))) 0, bound (hi.map (va (tenv E))) es.length with
        | some l, some h => if s = sz ∧ l ≤ h ∧ h ≤ es.length then some (.rview id g l (h - l)) else none
        | _, _ => none
      | _ => none
    | .rview id g l0 len => match vGet σ id g with
      | some (.row s _ _) => match bound (lo.map (va (tenv E))) 0, bound (hi.map (va (tenv E))) len with
        | some l, some h => if s = sz ∧ l ≤ h ∧ h ≤ len then some (.rview id g (l0 + l) (h - l)) else none
        | _, _ => none
      | _ => none
    | _ => none
  | _ => none

def CallOk [Glob] (P : Program) (call : XC) : Prop := ∀ f args σ v σ', call f args σ = some (v, σ') → ∀ Post : KP, Post v σ' → T P f args σ Post
def ExtOk [Glob] (P : Program) (ext : XE) : Prop := ∀ f args v, ext f args = some v → ∀ (σ : VHeap) (Post : KP), Post v σ → X P f args σ Post

section
variable {P : Program} [Glob] {call : XC} {ext : XE} (hc : CallOk P call) (he : ExtOk P ext)
include hc he
set_option maxHeartbeats 4000000 in
theorem xlook_ok {n : Nat} {E : List PV} {σ : VHeap} {op : VOp} {v : PV} (h : xlook call ext E σ op = some v) : Y P n op (tenv E) σ v := by
  intro K hk
  cases op <;> simp only [xlook] at h <;> simp only [vop] <;> first | (cases h; done) | skip
  case mov x => cases h; exact hk
  case pick c x y =>
    unfold vPick
    split at h <;> simp only [*] <;> first | (cases h; exact hk) | cases h
  case build zero parts =>
    unfold vBuild
    split at h <;> simp only [*] <;> first | (cases h; exact hk) | cases h
  case load sz x =>
    unfold vLoad
    split at h
    · simp only [*]
      split at h
      · simp only [*]
      · cases h
    · simp only [*]
      split at h
      · simp only [*]
        split at h
        · simp only [*]
        · cases h
      · cases h
    · simp only [*]
    · cases h
  case nilCheck x =>
    unfold vNilCheck
    split at h
    · rename_i hx; split at h
      · rename_i hs; cases h; simp only [hx]; exact ⟨Option.isSome_iff_exists.1 hs, hk⟩
      · cases h
    · rename_i hx; split at h
      · rename_i hs; cases h; simp only [hx]; exact ⟨Option.isSome_iff_exists.1 hs, hk⟩
      · cases h
    · rename_i hx; cases h; simp only [hx]; exact hk
    · cases h
  case bin op t x y => exact xbin_ok h hk
  case un op x =>
    unfold vUn
    split at h
    · simp only [*]; cases h; exact hk
    · simp only [*]
    · simp only [*]; cases h; exact hk
    · cases h
  case convInt k x =>
    unfold vConvInt
    split at h <;> simp only [*] <;> first | (cases h; exact hk) | cases h
  case convStr x =>
    unfold vConvStr
    split at h <;> simp only [*] <;> first | (cases h; exact hk) | cases h
  case b2s x =>
    unfold vB2S
    split at h
    · simp only [*]
      split at h <;> simp only [*] <;> first | (cases h; exact hk) | cases h
    · cases h
  case func f caps => cases h; exact hk
  case sliceStr x lo hi =>
    unfold vSliceStr
    split at h
    · simp only [*]
      split at h
      · simp only [*]
        split at h
        · rename_i hh; cases h; exact ⟨hh.1, hh.2, hk⟩
        · cases h
      · cases h
    · cases h
  case slice sz x lo hi =>
    unfold vSlice
    split at h
    · simp only [*]
      split at h
      · simp only [*]
        split at h
        · rename_i hh; cases h; exact ⟨hh.1, hh.2.1, fun e he => Nat.eq_of_beq_eq_true (List.all_eq_true.1 hh.2.2 e he), hk⟩
        · cases h
      · cases h
    · simp only [*]
      split at h
      · simp only [*]; cases h; exact hk
      · cases h
    · simp only [*]
      split at h
      · simp only [*]
        split at h
        · rename_i hh; cases h; exact ⟨hh.1, Option.isSome_iff_exists.1 hh.2.1, hh.2.2.1, hh.2.2.2, hk⟩
        · cases h
      · cases h
    · cases h
  case sliceArr n sz x lo hi =>
    unfold vSliceArr
    split at h
    · simp only [*]
      split at h
      · simp only [*]
        split at h
        · simp only [*]
          split at h
          · rename_i hh; cases h; exact ⟨hh.1, hh.2.1, hh.2.2.1, hh.2.2.2, hk⟩
          · cases h
        · cases h
      · cases h
    · cases h
  case field off x => exact xfield_ok h hk
  case fieldVal off r x =>
    unfold vFieldVal
    split at h
    · simp only [*]
    · cases h
  case index sz x i =>
    unfold vIndex
    split at h
    · simp only [*]
      split at h
      · split at h
        · split at h
          · rename_i h0 _ _ h1 h2; cases h; simp only [h1]; exact ⟨h0, h2, hk⟩
          · cases h
        · cases h
      · cases h
    · simp only [*]
      split at h
      · simp only [*]
        split at h
        · rename_i hh; cases h; exact ⟨hh.1, hh.2.1, hh.2.2, hk⟩
        · cases h
      · cases h
    · simp only [*]
      split at h
      · rename_i hh; cases h; exact ⟨hh.1, Option.isSome_iff_exists.1 hh.2.1, hh.2.2.1, hh.2.2.2, hk⟩
      · cases h
    · cases h
  case indexArr n sz x i =>
    unfold vIndexArr
    split at h
    · simp only [*]
      split at h
      · rename_i hh; exact ⟨hh.1, hh.2, xfield_ok h hk⟩
      · cases h
    · cases h
  case indexStr x i =>
    unfold vIndexStr
    split at h
    · simp only [*]
      split at h
      · split at h
        · rename_i h0 _ _ h1; cases h; simp only [h1]; exact ⟨h0, hk⟩
        · cases h
      · cases h
    · cases h
  case indexAgg n sz r x i =>
    unfold vIndexAgg
    split at h
    · simp only [*]
      split at h
      · rename_i hh; simp only [h]; exact ⟨hh.1, hh.2, hk⟩
      · cases h
    · cases h
  case extract k x =>
    unfold vExtract
    split at h
    · simp only [*]
    · cases h
  case lookup b zero ok x k =>
    unfold vLookup
    split at h
    case isFalse => cases h
    rename_i hkv
    refine ⟨hkv, ?_⟩
    unfold withMap
    split at h
    · simp only [*]
      split at h
      · simp only [*]
        split at h
        · simp only [*]; cases h; exact hk
        · simp only [*]; cases h; exact hk
        · cases h
      · cases h
    · cases h
  case call raw f args =>
    unfold vCall
    split at h
    · rename_i v' σ' hcall
      split at h
      · rename_i hh
        cases h
        have e := eqH_ok _ _ hh
        subst e
        cases raw
        · exact hc _ _ _ _ _ (by simpa using hcall) _ hk
        · exact hc _ _ _ _ _ (by simpa using hcall) _ hk
      · cases h
    · cases h
  case ext f args =>
    split at h
    · rename_i v' hcall
      split at h
      · rename_i hh
        cases h
        rw [eqH_ok _ _ hh]
        exact he _ _ _ hcall _ _ hk
      · cases h
    · cases h
  case len x =>
    unfold vLen
    split at h
    · simp only [*]; cases h; exact hk
    · cases h
  case lenStr x =>
    unfold vLenStr
    split at h
    · simp only [*]; cases h; exact hk
    · cases h
  case lenMap x =>
    unfold vMapLen withMap
    split at h
    · simp only [*]
      split at h
      · simp only [*]; cases h; exact hk
      · cases h
    · cases h
  case minmax mx x y =>
    unfold vMinMax
    split at h
    · simp only [*]
      split at h
      · rename_i hh; cases h; exact ⟨hh, hk⟩
      · cases h
    · cases h
  case eqAgg ks ne x y =>
    unfold vEqAgg
    split at h
    · simp only [*]
      split at h
      · simp only [*]; cases h; exact hk
      · cases h
    · cases h
  case sliceV sz x lo hi =>
    unfold vSliceV
    split at h
    · simp only [*]
      split at h
      · simp only [*]
        split at h
        · simp only [*]
          split at h
          · rename_i hh; cases h; exact ⟨hh.1, hh.2.1, hh.2.2, hk⟩
          · cases h
        · cases h
      · cases h
    · simp only [*]
      split at h
      · simp only [*]
        split at h
        · simp only [*]
          split at h
          · rename_i hh; cases h; exact ⟨hh.1, hh.2.1, hh.2.2, hk⟩
          · cases h
        · cases h
      · cases h
    · cases h
end

def xsnap (x : PV) (σ : VHeap) : Option (PV × VHeap) :=
  match x with
  | .row id g => match σ[id]? with
    | some (g', .row _ es _) => if Nat.beq g' g = true then some (.slr es id g, frzId σ id) else none
    | _ => none
  | _ => none
theorem xsnap_ok {x : PV} {σ : VHeap} {q : PV × VHeap} (h : xsnap x σ = some q) {K : KP} (k : K q.1 q.2) : vSnap x σ K := by
  unfold xsnap at h; unfold vSnap
  split at h
  · simp only []
    split at h
    · simp only [*]
      split at h
      · rename_i e; cases h; exact ⟨Nat.eq_of_beq_eq_true e, k⟩
      · cases h
    · cases h
  · cases h
def xop (call : XC) (ext : XE) (n : Nat) (E : List PV) (σ : VHeap) (op : VOp) : Option (PV × VHeap) :=
  match op with
  | .snap x => xsnap (va (tenv E) x) σ
  | .newRow s sz => match xnew (n + s) (.row sz [] false) σ with
    | some q => some (.row (n + s) q.1, q.2)
    | none => none
  | .alloc s zero => match xnew (n + s) (.box zero false) σ with
    | some q => some (.ptr (n + s) q.1 0, q.2)
    | none => none
  | .box s x => if (pcells (va (tenv E) x)).all scalar = true then match xnew (n + s) (.box (pcells (va (tenv E) x)) false) σ with
    | some q => some (.ptr (n + s) q.1 0, q.2)
    | none => none
    else none
  | .buildSlice s sz len zero parts => match vFillRow sz (List.replicate len zero) (parts.map fun q => (q.1, va (tenv E) q.2)) with
    | some es => match xnew (n + s) (.row sz es false) σ with
      | some q => some (.row (n + s) q.1, q.2)
      | none => none
    | none => none
  | .store sz x v => if (pcells (va (tenv E) v)).length = sz ∧ (pcells (va (tenv E) v)).all scalar = true then match va (tenv E) x with
    | .ptr id g off => match vGet σ id g with
      | some (.box cs false) => if off + sz ≤ cs.length then some (.undef, σ.set id (g, .box (splice cs off (pcells (va (tenv E) v))) false)) else none
      | _ => none
    | .rptr id g i off => match vGet σ id g with
      | some (.row s es false) => match es[i]? with
        | some e => if off + sz ≤ e.length then some (.undef, σ.set id (g, .row s (es.set i (splice e off (pcells (va (tenv E) v)))) false)) else none
        | none => none
      | _ => none
    | _ => none
    else none
  | .s2b s x => match va (tenv E) x with
    | .str l => if l.length ≤ 9223372036854775807 then match xnew (n + s) (.row 1 (bytesEs l) false) σ with
      | some q => some (.row (n + s) q.1, q.2)
      | none => none
      else none
    | _ => none
  | .makeMap s => match xnew (n + s) (.map [] 0) σ with
    | some q => some (.map (n + s) q.1, q.2)
    | none => none
  | .slice sz x lo hi => match va (tenv E) x with
    | .row id g => match vGet σ id g with
      | some (.row s es _) => match bound (lo.map (va (tenv E))) 0, bound (hi.map (va (tenv E))) es.length with
        | some l, some h => if s = sz ∧ l ≤ h ∧ h ≤ es.length then some (.sl ((es.drop l).take (h - l)), frzId σ id) else none
        | _, _ => none
      | _ => none
    | _ => match xlook call ext E σ (.slice sz x lo hi) with
      | some v => some (v, σ)
      | none => none
  | .mapUpdate b x k v => if keyV b (va (tenv E) k) = true then match va (tenv E) x with
    | .map id g => match vGet (frz σ (va (tenv E) v)) id g with
      | some (.map es clock) => match look (va (tenv E) k) es with
        | some (some (i, _, born)) => some (.undef, (frz σ (va (tenv E) v)).set id (g, .map (es.set i (va (tenv E) k, inl σ (va (tenv E) v), born)) clock))
        | some none => some (.undef, (frz σ (va (tenv E) v)).set id (g, .map (es ++ [(va (tenv E) k, inl σ (va (tenv E) v), clock)]) (clock + 1)))
        | none => none
      | _ => none
    | _ => none
    else none
  | .delete b x k => if keyV b (va (tenv E) k) = true then match va (tenv E) x with
    | .map id g => match vGet σ id g with
      | some (.map es clock) => match look (va (tenv E) k) es with
        | some (some (i, _, _)) => some (.tup [], σ.set id (g, .map (es.eraseIdx i) clock))
        | some none => some (.tup [], σ.set id (g, .map es clock))
        | none => none
      | _ => none
    | _ => none
    else none
  | .clearMap x => match va (tenv E) x with
    | .map id g => match vGet σ id g with
      | some (.map _ clock) => some (.tup [], σ.set id (g, .map [] clock))
      | _ => none
    | _ => none
  | .rangeStr s x => match va (tenv E) x with
    | .str l => match xnew (n + s) (.siter l 0) σ with
      | some q => some (.iter (n + s) q.1, q.2)
      | none => none
    | _ => none
  | .nextStr x => match va (tenv E) x with
    | .iter id g => match vGet σ id g with
      | some (.siter s pos) => if pos < s.length then
          some (.tup [.bool true, .int .i64 pos, .int .i32 (Utf8.decode ⟨s.toArray⟩ pos).1], σ.set id (g, .siter s (pos + (Utf8.decode ⟨s.toArray⟩ pos).2)))
        else some (.tup [.bool false], σ)
      | _ => none
    | _ => none
  | .call raw f args => if raw then call f (args.map (va (tenv E))) σ else call f (inlArgs σ (args.map (va (tenv E)))) (frzArgs σ (args.map (va (tenv E))))
  | .append s sz bytes y x => match rdA σ (va (tenv E) x) with
    | some new => if (new.all fun e => Nat.beq e.length sz && e.all scalar) = true then match own (va (tenv E) y) with
      | .row id g => match vGet σ id g with
        | some (.row s' es fz) => if s' = sz ∧ (es.length + new.length) * bytes ≤ 140737488355328 then some (.row id (g + 1), σ.set id (g + 1, .row sz (es ++ new) fz)) else none
        | _ => none
      | .nils => if new.length * bytes ≤ 140737488355328 then match xnew (n + s) (.row sz new false) σ with
        | some q => some (.row (n + s) q.1, q.2)
        | none => none
        else none
      | _ => none
      else none
    | none => none
  | .copyTo sz d x => match rdA σ (va (tenv E) x) with
    | some new => if (new.all fun e => Nat.beq e.length sz && e.all scalar) = true then match va (tenv E) d with
      | .bview id g off len => match vGet σ id g with
        | some (.box cs false) => if sz = 1 ∧ off + len ≤ cs.length then some (.int .i64 (min new.length len : Nat), σ.set id (g, .box (splice cs off ((new.take len).flatten)) false)) else none
        | _ => none
      | .row id g => match vGet σ id g with
        | some (.row s es false) => if s = sz then some (.int .i64 (min new.length es.length : Nat), σ.set id (g, .row sz (ovl es 0 es.length new) false)) else none
        | _ => none
      | .rview id g lo len => match vGet σ id g with
        | some (.row s es false) => if s = sz ∧ lo + len ≤ es.length then some (.int .i64 (min new.length len : Nat), σ.set id (g, .row sz (ovl es lo len new) false)) else none
        | _ => none
      | .nils => some (.int .i64 0, σ)
      | _ => none
      else none
    | none => none
  | .makeSlice s sz bytes zero x y => match va (tenv E) x, va (tenv E) y with
    | .int _ l, .int _ c => if 0 ≤ l ∧ l ≤ c ∧ c * bytes ≤ 140737488355328 ∧ c ≤ 140737488355328 then match xnew (n + s) (.row sz (List.replicate l.toNat zero) false) σ with
      | some q => some (.row (n + s) q.1, q.2)
      | none => none
      else none
    | _, _ => none
  | .clip s sz x => if (rd σ (va (tenv E) x)).isSome = true then match xnew (n + s) (.row sz [] false) σ with
    | some q => some (.row (n + s) q.1, q.2)
    | none => none
    else none
  | op => match xlook call ext E σ op with
    | some v => some (v, σ)
    | none => none

theorem rowok_all {sz : Nat} {es : List (List PV)} (h : (es.all fun e => Nat.beq e.length sz && e.all scalar) = true) : RowOk sz es := fun e he => by
  have := List.all_eq_true.1 h e he
  rw [Bool.and_eq_true] at this
  exact ⟨Nat.eq_of_beq_eq_true this.1, this.2⟩

section
variable {P : Program} [Glob] {call : XC} {ext : XE} (hc : CallOk P call) (he : ExtOk P ext)
include hc he
set_option maxHeartbeats 4000000 in
theorem xop_ok {n : Nat} {E : List PV} {σ : VHeap} {op : VOp} {v : PV} {σ' : VHeap} (h : xop call ext n E σ op = some (v, σ')) {K : KP} (hk : K v σ') : vop P n (tenv E) σ K op := by
  have other : ∀ {op : VOp}, (match xlook call ext E σ op with | some v => some (v, σ) | none => none) = some (v, σ') → vop P n (tenv E) σ K op := by
    intro op h
    split at h
    · rename_i h1; cases h; exact xlook_ok hc he h1 K hk
    · cases h
  cases op <;> simp only [xop] at h <;> first | exact other h | skip
  case snap x => exact xsnap_ok h hk
  case newRow s sz =>
    split at h
    · rename_i hq; cases h; exact xnew_ok (K := fun g σ => K (.row (n + s) g) σ) hq hk
    · cases h
  case alloc s zero =>
    split at h
    · rename_i hq; cases h; exact xnew_ok (K := fun g σ => K (.ptr (n + s) g 0) σ) hq hk
    · cases h
  case box s x =>
    split at h
    · split at h
      · rename_i ha _ _ hq; cases h; exact ⟨ha, xnew_ok hq hk⟩
      · cases h
    · cases h
  case buildSlice s sz len zero parts =>
    simp only [vop, vBuildSlice]
    split at h
    · rename_i hf; simp only [hf]
      split at h
      · rename_i hq; cases h; exact xnew_ok hq hk
      · cases h
    · cases h
  case store sz x v =>
    simp only [vop, vStore]
    split at h
    case isFalse => cases h
    rename_i hh
    refine ⟨hh.1, hh.2, ?_⟩
    split at h
    · simp only [*]
      split at h
      · simp only [*]
        split at h
        · rename_i hl; cases h; exact ⟨hl, hk⟩
        · cases h
      · cases h
    · simp only [*]
      split at h
      · simp only [*]
        split at h
        · simp only [*]
          split at h
          · rename_i hl; cases h; exact ⟨hl, hk⟩
          · cases h
        · cases h
      · cases h
    · cases h
  case s2b s x =>
    simp only [vop, vS2B]
    split at h
    · rename_i hx; simp only [hx]
      split at h
      · rename_i hl
        split at h
        · rename_i hq; cases h; exact ⟨hl, xnew_ok hq hk⟩
        · cases h
      · cases h
    · cases h
  case makeMap s =>
    split at h
    · rename_i hq; cases h; exact xnew_ok (K := fun g σ => K (.map (n + s) g) σ) hq hk
    · cases h
  case slice sz x lo hi =>
    split at h
    · rename_i hx
      simp only [vop, vSlice, hx]
      split at h
      · rename_i hg; simp only [hg]
        split at h
        · rename_i h1 h2; simp only [h1, h2]
          split at h
          · rename_i hl; cases h; exact ⟨hl.1, hl.2.1, hl.2.2, hk⟩
          · cases h
        · cases h
      · cases h
    · exact other h
  case mapUpdate b x k v =>
    simp only [vop, vMapUpdate, withMap]
    split at h
    case isFalse => cases h
    rename_i hh
    refine ⟨hh, ?_⟩
    split at h
    · rename_i hx; simp only [hx]
      split at h
      · rename_i hg; simp only [hg]
        split at h
        · rename_i hl; simp only [hl]; cases h; exact hk
        · rename_i hl; simp only [hl]; cases h; exact hk
        · cases h
      · cases h
    · cases h
  case delete b x k =>
    simp only [vop, vDelete, withMap]
    split at h
    case isFalse => cases h
    rename_i hh
    refine ⟨hh, ?_⟩
    split at h
    · rename_i hx; simp only [hx]
      split at h
      · rename_i hg; simp only [hg]
        split at h
        · rename_i hl; simp only [hl]; cases h; exact hk
        · rename_i hl; simp only [hl]; cases h; exact hk
        · cases h
      · cases h
    · cases h
  case clearMap x =>
    simp only [vop, vMapClear, withMap]
    split at h
    · rename_i hx; simp only [hx]
      split at h
      · rename_i hg; simp only [hg]; cases h; exact hk
      · cases h
    · cases h
  case rangeStr s x =>
    simp only [vop, vRangeStr]
    split at h
    · rename_i hx; simp only [hx]
      split at h
      · rename_i hq; cases h; exact xnew_ok hq hk
      · cases h
    · cases h
  case nextStr x =>
    simp only [vop, vNextStr]
    split at h
    · rename_i hx; simp only [hx]
      split at h
      · rename_i hg; simp only [hg]
        split at h
        · rename_i hl; rw [if_pos hl]; cases h; exact hk
        · rename_i hl; rw [if_neg hl]; cases h; exact hk
      · cases h
    · cases h
  case call raw f args =>
    simp only [vop, vCall]
    cases raw
    · exact hc _ _ _ _ _ (by simpa using h) _ hk
    · exact hc _ _ _ _ _ (by simpa using h) _ hk
  case append s sz bytes y x =>
    simp only [vop, vAppend]
    split at h
    case h_2 => cases h
    rename_i hr
    simp only [hr]
    split at h
    case isFalse => cases h
    rename_i hok
    refine ⟨rowok_all hok, ?_⟩
    split at h
    · rename_i hx; simp only [hx]
      split at h
      · rename_i hg; simp only [hg]
        split at h
        · rename_i hl; cases h; exact ⟨hl.1, hl.2, hk⟩
        · cases h
      · cases h
    · rename_i hx; simp only [hx]
      split at h
      · rename_i hl
        split at h
        · rename_i hq; cases h; exact ⟨hl, xnew_ok hq hk⟩
        · cases h
      · cases h
    · cases h
  case copyTo sz d x =>
    simp only [vop, vCopyTo]
    split at h
    case h_2 => cases h
    rename_i hr
    simp only [hr]
    split at h
    case isFalse => cases h
    rename_i hok
    refine ⟨rowok_all hok, ?_⟩
    split at h
    · rename_i hx; simp only [hx]
      split at h
      · rename_i hg; simp only [hg]
        split at h
        · rename_i hl; cases h; exact ⟨hl.1, hl.2, hk⟩
        · cases h
      · cases h
    · rename_i hx; simp only [hx]
      split at h
      · rename_i hg; simp only [hg]
        split at h
        · rename_i hl; cases h; exact ⟨hl, hk⟩
        · cases h
      · cases h
    · rename_i hx; simp only [hx]
      split at h
      · rename_i hg; simp only [hg]
        split at h
        · rename_i hl; cases h; exact ⟨hl.1, hl.2, hk⟩
        · cases h
      · cases h
    · rename_i hx; simp only [hx]; cases h; exact hk
    · cases h
  case makeSlice s sz bytes zero x y =>
    simp only [vop, vMakeSlice]
    split at h
    · rename_i hx hy; simp only [hx, hy]
      split at h
      · rename_i hl
        split at h
        · rename_i hq; cases h; exact ⟨hl.1, hl.2.1, hl.2.2.1, hl.2.2.2, xnew_ok hq hk⟩
        · cases h
      · cases h
    · cases h
  case clip s sz x =>
    split at h
    · split at h
      · rename_i ha _ _ hq; cases h; exact ⟨Option.isSome_iff_exists.1 ha, xnew_ok hq hk⟩
      · cases h
    · cases h
end

/-! ### Code. -/
def tset (E : List PV) (d : Option Nat) (v : PV) : Option (List PV) :=
  match d with
  | none => some E
  | some d => if d < E.length then some (E.set d v) else none
theorem tset_ok {E E' : List PV} {d : Option Nat} {v : PV} (h : tset E d v = some E') : tenv E' = eput (tenv E) d v := by
  unfold tset at h
  split at h
  · cases h; rfl
  · split at h
    · rename_i d hd; cases h
      funext i
      simp only [tenv, eput]
      by_cases e : i = d
      · subst e; rw [List.getElem?_set_self hd]; simp
      · rw [List.getElem?_set_ne (Ne.symm e)]
        have : Nat.beq i d = false := by cases hb : Nat.beq i d with | false => rfl | true => exact (e (Nat.eq_of_beq_eq_true hb)).elim
        rw [this]; rfl
    · cases h
/-- One operation, with its guard. -/
def xo (call : XC) (ext : XE) (n : Nat) (o : VO) (E : List PV) (σ : VHeap) : Option (List PV × VHeap) :=
  match o.guard with
  | none => match xop call ext n E σ o.op with
    | some (v, σ') => match tset E o.dst v with | some E' => some (E', σ') | none => none
    | none => none
  | some (s, b) => match tenv E s with
    | .bool c => if c = b then (match xop call ext n E σ o.op with
        | some (v, σ') => match tset E o.dst v with | some E' => some (E', σ') | none => none
        | none => none)
      else match tset E o.dst (.tup []) with | some E' => some (E', σ) | none => none
    | .tup [] => match tset E o.dst (.tup []) with | some E' => some (E', σ) | none => none
    | _ => none
def xos (call : XC) (ext : XE) (n : Nat) : List VO → List PV → VHeap → Option (List PV × VHeap)
  | [], E, σ => some (E, σ)
  | o :: r, E, σ => match xo call ext n o E σ with
    | some (E', σ') => xos call ext n r E' σ'
    | none => none
/-- One that but looks, with its guard. -/
def xlo (call : XC) (ext : XE) (o : VO) (E : List PV) (σ : VHeap) : Option PV :=
  match o.guard with
  | none => xlook call ext E σ o.op
  | some (s, b) => match tenv E s with
    | .bool c => if c = b then xlook call ext E σ o.op else some (.tup [])
    | .tup [] => some (.tup [])
    | _ => none
/-- The heaps through which an order goes. -/
def xheaps (call : XC) (ext : XE) (n : Nat) : List (Nat × VO) → List PV → VHeap → List VHeap
  | [], _, σ => [σ]
  | (0, o) :: r, E, σ => match xo call ext n o E σ with
    | some (E', σ') => σ :: xheaps call ext n r E' σ'
    | none => []
  | (_ + 1, o) :: r, E, σ => match xlo call ext o E σ with
    | some v => match tset E o.dst v with
      | some E' => xheaps call ext n r E' σ
      | none => []
    | none => []
def xseq (call : XC) (ext : XE) (n : Nat) (hs : List VHeap) : List (Nat × VO) → List PV → VHeap → Option (List PV × VHeap)
  | [], E, σ => some (E, σ)
  | (0, o) :: r, E, σ => match xo call ext n o E σ with
    | some (E', σ') => if hs.any (eqH σ') = true then xseq call ext n hs r E' σ' else none
    | none => none
  | (1, o) :: r, E, σ => match xlo call ext o E σ with
    | some v => match tset E o.dst v with
      | some E' => xseq call ext n hs r E' σ
      | none => none
    | none => none
  | (_ + 2, o) :: r, E, σ => match xlo call ext o E σ with
    | some v => if (hs.all fun h => match xlo call ext o E h with | some v' => eqPV 9 v' v | none => false) = true then match tset E o.dst v with
      | some E' => xseq call ext n hs r E' σ
      | none => none
      else none
    | none => none
def xloop (body : List PV → VHeap → Option (VE × List PV × VHeap)) : Nat → List PV → VHeap → Option (VE × List PV × VHeap)
  | 0, _, _ => none
  | k + 1, E, σ => match body E σ with
    | some (.normal, E', σ') => xloop body k E' σ'
    | r => r
def xc (call : XC) (ext : XE) (n fuel : Nat) : VC → List PV → VHeap → Option (VE × List PV × VHeap)
  | .skip, E, σ => some (.normal, E, σ)
  | .region ops, E, σ => match xos call ext n ops E σ with
    | some (E', σ') => some (.normal, E', σ')
    | none => none
  | .seq x y, E, σ => match xc call ext n fuel x E σ with
    | some (.normal, E', σ') => xc call ext n fuel y E' σ'
    | r => r
  | .cond c x y, E, σ => match va (tenv E) c with
    | .bool true => xc call ext n fuel x E σ
    | .bool false => xc call ext n fuel y E σ
    | _ => none
  | .block id c, E, σ => match xc call ext n fuel c E σ with
    | some (.exit id', E', σ') => if Nat.beq id' id = true then some (.normal, E', σ') else some (.exit id', E', σ')
    | r => r
  | .loop c, E, σ => xloop (xc call ext n fuel c) fuel E σ
  | .exit id, E, σ => some (.exit id, E, σ)
  | .ret, E, σ => some (.ret, E, σ)
  | .dreg ops ord B, E, σ => if okReg ops ord B = true ∧ befs (ops.map (·.2)) [] = B then
      match xseq call ext n (xheaps call ext n (ordOps ops ord) E σ) (ordOps ops ord) E σ with
      | some (E', σ') => if (xheaps call ext n (ordOps ops ord) E σ).any (eqH σ) = true then some (.normal, E', σ') else none
      | none => none
      else none
  | .stuck, _, _ => none

section
variable {P : Program} [Glob] {call : XC} {ext : XE} (hc : CallOk P call) (he : ExtOk P ext)
include hc he
theorem xo_ok {n : Nat} {o : VO} {E E' : List PV} {σ σ' : VHeap} (h : xo call ext n o E σ = some (E', σ')) {K : Env → VHeap → Prop} (hk : K (tenv E') σ') : vrunOps P n K [o] (tenv E) σ := by
  have run : ∀ {v : PV} {σ1 : VHeap}, xop call ext n E σ o.op = some (v, σ1) → (match tset E o.dst v with | some E' => some (E', σ1) | none => none) = some (E', σ') → vop P n (tenv E) σ (fun v σ' => vrunOps P n K [] (eput (tenv E) o.dst v) σ') o.op := by
    intro v σ1 h1 h2
    split at h2
    · rename_i ht; cases h2
      refine xop_ok hc he h1 ?_
      rw [← tset_ok ht]; exact hk
    · cases h2
  have skip : (match tset E o.dst (.tup []) with | some E' => some (E', σ) | none => none) = some (E', σ') → vrunOps P n K [] (eput (tenv E) o.dst (.tup [])) σ := by
    intro h2
    split at h2
    · rename_i ht; cases h2; rw [← tset_ok ht]; exact hk
    · cases h2
  unfold xo at h
  simp only [vrunOps]
  split at h
  · rename_i hg
    simp only [hg]
    split at h
    · rename_i h1; exact run h1 h
    · cases h
  · rename_i s b hg
    simp only [hg]
    split at h
    · rename_i c hs
      simp only [hs]
      split at h
      · rename_i e; rw [if_pos e]
        split at h
        · rename_i h1; exact run h1 h
        · cases h
      · rename_i e; rw [if_neg e]; exact skip h
    · rename_i hs; simp only [hs]; exact skip h
    · cases h
theorem xos_ok {n : Nat} : ∀ (l : List VO) {E E' : List PV} {σ σ' : VHeap}, xos call ext n l E σ = some (E', σ') → ∀ {K : Env → VHeap → Prop}, K (tenv E') σ' → vrunOps P n K l (tenv E) σ
  | [], _, _, _, _, h, _, hk => by cases h; exact hk
  | o :: r, E, E', σ, σ', h, K, hk => by
    rw [xos] at h
    split at h
    · rename_i h1
      exact rcons (xo_ok hc he h1 (xos_ok r h hk))
    · cases h
theorem xlo_ok {n : Nat} {o : VO} {E : List PV} {σ : VHeap} {v : PV} (h : xlo call ext o E σ = some v) : YO P n o (tenv E) σ v := by
  obtain ⟨d, op, g⟩ := o
  unfold xlo at h
  dsimp only at h
  split at h
  · exact yn (xlook_ok hc he h)
  · rename_i s b
    split at h
    · rename_i c hs
      split at h
      · rename_i e; subst e; exact yt hs (xlook_ok hc he h)
      · rename_i e; cases h; exact yf (by rw [hs]; cases c <;> cases b <;> first | rfl | exact (e rfl).elim)
    · rename_i hs; cases h; exact yu hs
    · cases h
theorem xseq_ok {n : Nat} {hs : List VHeap} : ∀ (l : List (Nat × VO)) {E E' : List PV} {σ σ' : VHeap}, xseq call ext n hs l E σ = some (E', σ') → ∀ {K : Env → VHeap → Prop}, K (tenv E') σ' → vseq P n (fun h => h ∈ hs) K l (tenv E) σ
  | [], _, _, _, _, h, _, hk => by cases h; exact hk
  | (0, o) :: r, E, E', σ, σ', h, K, hk => by
    rw [xseq] at h
    split at h
    · rename_i h1
      split at h
      · rename_i h2
        refine sv_0 (xo_ok hc he h1 ⟨?_, xseq_ok r h hk⟩)
        obtain ⟨x, hx, e⟩ := List.any_eq_true.1 h2
        rw [eqH_ok _ _ e]; exact hx
      · cases h
    · cases h
  | (1, o) :: r, E, E', σ, σ', h, K, hk => by
    rw [xseq] at h
    split at h
    · rename_i h1
      split at h
      · rename_i h2
        refine sv_1 (xlo_ok hc he h1) ?_
        rw [← tset_ok h2]; exact xseq_ok r h hk
      · cases h
    · cases h
  | (m + 2, o) :: r, E, E', σ, σ', h, K, hk => by
    rw [xseq] at h
    split at h
    · rename_i v h1
      split at h
      · rename_i h3
        split at h
        · rename_i h2
          refine ⟨v, fun s hsm => ?_, ?_⟩
          · have := List.all_eq_true.1 h3 s hsm
            split at this
            · rename_i v' hv'
              have e := eqPV_ok 9 _ _ this
              subst e
              exact xlo_ok hc he hv'
            · cases this
          · rw [← tset_ok h2]; exact xseq_ok r h hk
        · cases h
      · cases h
    · cases h
theorem xc_ok {n fuel : Nat} : ∀ (c : VC) {E E' : List PV} {σ σ' : VHeap} {e : VE}, xc call ext n fuel c E σ = some (e, E', σ') → ∀ {Q : QP}, Q e (tenv E') σ' → vrun P n c (tenv E) σ Q
  | .skip, _, _, _, _, _, h, _, hk => by cases h; exact hk
  | .region ops, E, E', σ, σ', e, h, Q, hk => by
    rw [xc] at h
    split at h
    · rename_i h1; cases h; exact xos_ok hc he ops h1 hk
    · cases h
  | .seq x y, E, E', σ, σ', e, h, Q, hk => by
    rw [xc] at h
    show vrun P n x (tenv E) σ (Q.then fun env σ => vrun P n y env σ Q)
    split at h
    · rename_i h1
      exact xc_ok x h1 (xc_ok y h hk)
    · rename_i h1
      refine xc_ok x h ?_
      cases e with
      | normal => exact (h1 _ _ h).elim
      | exit id => exact hk
      | ret => exact hk
  | .cond c x y, E, E', σ, σ', e, h, Q, hk => by
    rw [xc] at h
    split at h
    · rename_i h1; exact sc_condT h1 (xc_ok x h hk)
    · rename_i h1; exact sc_condF h1 (xc_ok y h hk)
    · cases h
  | .block id c, E, E', σ, σ', e, h, Q, hk => by
    rw [xc] at h
    show vrun P n c (tenv E) σ (Q.block id)
    split at h
    · rename_i id' _ _ h1
      refine xc_ok c h1 ?_
      split at h
      · rename_i hb; cases h
        have hb := Nat.eq_of_beq_eq_true hb; subst hb
        simp only [QP.block, if_true]; exact hk
      · rename_i hb; cases h
        simp only [QP.block]; rw [if_neg (fun e => hb (by rw [e]; exact Nat.beq_refl _))]; exact hk
    · rename_i h1
      refine xc_ok c h ?_
      cases e with
      | normal => exact hk
      | exit id => exact (h1 _ _ _ h).elim
      | ret => exact hk
  | .loop c, E, E', σ, σ', e, h, Q, hk => by
    rw [xc] at h
    refine ⟨fun k env s => ∃ E1, env = tenv E1 ∧ xloop (xc call ext n fuel c) k E1 s = some (e, E', σ'), ⟨fuel, E, rfl, h⟩, ?_⟩
    rintro k _ s ⟨E1, rfl, hx⟩
    cases k with
    | zero => cases hx
    | succ k =>
      rw [xloop] at hx
      split at hx
      · rename_i h1
        exact xc_ok c h1 ⟨k, Nat.lt_succ_self k, _, rfl, hx⟩
      · rename_i h1
        refine xc_ok c hx ?_
        cases e with
        | normal => exact (h1 _ _ hx).elim
        | exit id => exact hk
        | ret => exact hk
  | .exit id, _, _, _, _, _, h, _, hk => by cases h; exact hk
  | .ret, _, _, _, _, _, h, _, hk => by cases h; exact hk
  | .dreg ops ord B, E, E', σ, σ', e, h, Q, hk => by
    rw [xc] at h
    split at h
    case isFalse => cases h
    rename_i h0
    split at h
    · rename_i h1
      split at h
      · rename_i h2
        cases h
        refine dr _ ord h0.2 h0.1 rfl ?_ (xseq_ok hc he _ h1 hk)
        obtain ⟨x, hx, e⟩ := List.any_eq_true.1 h2
        rw [← eqH_ok _ _ e] at hx; exact hx
      · cases h
    · cases h
  | .stuck, _, _, _, _, _, h, _, _ => by cases h
end

/-! ### Calls. -/
def xtab : List (Nat × VFun) → Nat → Option VFun
  | [], _ => none
  | (k, v) :: r, f => if Nat.beq k f = true then some v else xtab r f
def xtrim (n : Nat) (r : PV) (h : VHeap) : PV × VHeap :=
  if Nat.ble n h.length = true ∧ belB n 9 r = true ∧ ((h.take n).all fun x => belOB n x.2) = true then (r, h.take n) else (r, h)
def xret (vf : VFun) (n : Nat) : Option (VE × List PV × VHeap) → Option (PV × VHeap)
  | some (.exit _, _, _) => none
  | some (_, E, h) => match rvAll (tenv E) h vf.results with
    | some r => some (if vf.raw then xtrim n r h else xtrim n (inl h r) (frz h r))
    | none => none
  | none => none
def xcall (tab : List (Nat × VFun)) (ext spec : XE) (fuel : Nat) : Nat → XC
  | 0, _, _, _ => none
  | k + 1, f, args, σ => match spec f args with
    | some r => some (r, σ)
    | none => match xtab tab f with
      | some vf => if Nat.ble args.length vf.ntmps = true then
          xret vf σ.length (xc (xcall tab ext spec fuel k) ext σ.length fuel vf.body (args ++ List.replicate (vf.ntmps - args.length) (.tup [])) (σ ++ vdead vf.nsites))
        else none
      | none => none
def SpecOk [Glob] (P : Program) (spec : XE) : Prop := ∀ f args v, spec f args = some v → U P f args v
/-- A function's text is the program's. -/
def FunOk [Glob] (P : Program) (f : Nat) (vf : VFun) : Prop := ∃ fn raw, P.funcs[f]? = some fn ∧ cFun P raw vf.raw fn = some vf
def TabOk [Glob] (P : Program) (tab : List (Nat × VFun)) : Prop := ∀ p, p ∈ tab → FunOk P p.1 p.2
theorem TabOk.nil [Glob] {P : Program} : TabOk P [] := fun _ h => by simp at h
theorem TabOk.cons [Glob] {P : Program} {f : Nat} {vf : VFun} {tab : List (Nat × VFun)} (h : FunOk P f vf) (k : TabOk P tab) : TabOk P ((f, vf) :: tab) := fun p hp => by
  rcases List.mem_cons.1 hp with rfl | hp
  · exact h
  · exact k p hp
theorem xtab_mem : ∀ {tab : List (Nat × VFun)} {f : Nat} {vf : VFun}, xtab tab f = some vf → (f, vf) ∈ tab
  | [], _, _, h => by cases h
  | (k, v) :: r, f, vf, h => by
    rw [xtab] at h
    split at h
    · rename_i e; cases h; rw [Nat.eq_of_beq_eq_true e]; exact List.mem_cons_self
    · exact List.mem_cons_of_mem _ (xtab_mem h)
theorem tenv_args (args : List PV) (m : Nat) : tenv (args ++ List.replicate m (.tup [])) = argsEnv args := by
  funext i
  simp only [tenv, argsEnv]
  by_cases h : i < args.length
  · rw [List.getElem?_append_left h]
  · rw [List.getElem?_append_right (by omega), List.getElem?_eq_none (l := args) (by omega), List.getElem?_replicate]
    split <;> rfl
theorem xtrim_ok {n : Nat} {r r' : PV} {h h' : VHeap} (e : xtrim n r h = (r', h')) {Post : KP} (hk : Post r' h') : Post r h ∨ TrimP n Post r h := by
  unfold xtrim at e
  split at e
  · rename_i hh
    cases e
    refine .inr ⟨h.take n, h.drop n, (List.take_append_drop n h).symm, by rw [List.length_take]; have := Nat.le_of_ble_eq_true hh.1; omega, belB_ok 9 _ hh.2.1, fun x hx => belOB_ok _ (List.all_eq_true.1 hh.2.2 x hx), hk⟩
  · cases e; exact .inl hk
theorem xcall_ok [Glob] {P : Program} {tab : List (Nat × VFun)} {ext spec : XE} {fuel : Nat} (ht : TabOk P tab) (he : ExtOk P ext) (hsp : SpecOk P spec) : ∀ k, CallOk P (xcall tab ext spec fuel k) := by
  intro k
  induction k with
  | zero => intro f args σ v σ' h; cases h
  | succ k ih =>
    intro f args σ v σ' h Post hk
    rw [xcall] at h
    split at h
    · rename_i hr; cases h; exact hsp _ _ _ hr _ _ hk
    · split at h
      case h_2 => cases h
      rename_i vf hv
      split at h
      case isFalse => cases h
      rename_i hle
      obtain ⟨fn, raw, h1, h2⟩ := ht _ (xtab_mem hv)
      have hle := Nat.le_of_ble_eq_true hle
      have fin : ∀ {e : VE} {E : List PV} {hh : VHeap}, xc (xcall tab ext spec fuel k) ext σ.length fuel vf.body (args ++ List.replicate (vf.ntmps - args.length) (.tup [])) (σ ++ vdead vf.nsites) = some (e, E, hh) → (e = .normal ∨ e = .ret) →
          (match rvAll (tenv E) hh vf.results with | some r => some (if vf.raw then xtrim σ.length r hh else xtrim σ.length (inl hh r) (frz hh r)) | none => none) = some (v, σ') → T P f args σ Post := by
        intro e E hh hx hcase h
        split at h
        case h_2 => cases h
        rename_i r hr
        have body : ∀ {Post' : KP}, (if vf.raw then Post' r hh else Post' (inl hh r) (frz hh r)) → vrun P σ.length vf.body (argsEnv args) (σ ++ vdead vf.nsites) (vend vf Post') := by
          intro Post' hp
          have := xc_ok ih he vf.body hx (Q := vend vf Post') (by
            rcases hcase with rfl | rfl
            · show vret _ _ _ _; rw [hr]; exact hp
            · show vret _ _ _ _; rw [hr]; exact hp)
          rw [tenv_args] at this; exact this
        have key : (if vf.raw then Post r hh else Post (inl hh r) (frz hh r)) ∨ (if vf.raw then TrimP σ.length Post r hh else TrimP σ.length Post (inl hh r) (frz hh r)) := by
          have h := Option.some.inj h
          split at h
          · rename_i hraw; simp only [hraw, if_true]; exact xtrim_ok h hk
          · rename_i hraw; simp only [hraw]; exact xtrim_ok h hk
        rcases key with key | key
        · exact T_of h1 h2 ⟨hle, body key⟩
        · exact T.start fun _ _ => T_of h1 h2 ⟨hle, body key⟩
      unfold xret at h
      split at h
      · cases h
      · rename_i e E hh hne hx
        refine fin hx ?_ h
        cases e with
        | normal => exact .inl rfl
        | ret => exact .inr rfl
        | exit id => exact (hne _ rfl).elim
      · cases h
/-- A call without arguments, whose answer hangs on no memory. -/
theorem U_run [Glob] {P : Program} {f : FuncId} {r : PV} (hr : flatB 9 r = true) (hg : ∀ g cells, Glob.tab g = some cells → ClL cells) (h : T P f [] [] fun v _ => v = r) : U P f [] r := by
  intro σ Post hk w β vs h1 h2 h3 h4
  have hvs : vs = #[] := Array.size_eq_zero_iff.1 h1
  subst hvs
  have s0 : Sim [] β w := ⟨fun _ _ _ h => by simp at h, fun _ _ _ _ _ _ _ h => by simp at h⟩
  have g0 : GloRep w [] β := fun g cells e => by
    obtain ⟨ff, a1, a2, a3⟩ := h4 g cells e
    refine ⟨ff, still_part (L := σ) a1, fun j c hj => ?_, a3⟩
    exact Rep.part (σ := []) (L := σ) (a2 j c hj) (belL_iff.1 ((hg g cells e).cl 0) c (List.mem_of_getElem? hj))
  refine (h w β #[] rfl (fun i c v h => by simp at h) s0 g0).mono ?_
  rintro e w' ⟨v, r', σ', β', rfl, rfl, e3, _, e5⟩
  have old : ∀ b, b < w.heap.size → w'.heap[b]? = w.heap[b]? := fun b hb => e5.own b hb (by rintro ⟨i, g, o, h1, _⟩; simp at h1)
  have hs : Step σ β w σ β w' :=
    ⟨e5.os, e5.tape, e5.output, e5.size, fun b hb _ => old b hb, fun a v hc _ => by rw [cell_of_heap (old _ (cell_lt hc))]; exact hc, fun _ _ h => h, fun _ _ _ h => h,
      fun b arr ty fr hb => ⟨arr, (old b (Array.getElem?_eq_some_iff.1 hb).1).trans hb, rfl⟩, fun i gi oi h1 => ⟨gi, oi, h1, Nat.le_refl _, fun _ => ⟨oi.alike_refl, rfl⟩⟩⟩
  refine ⟨v, _, σ, β, rfl, hk, flat_rep 9 _ _ hr e3, ⟨fun i gi oi h1 => ?_, h3.inj⟩, hs⟩
  by_cases hl : oi.live
  · exact (h3.obj i gi oi h1).step hs fun b hb => old b (h3.lt h1 hl hb)
  · cases oi <;> simp [VObj.live] at hl; trivial
/-- A CLOSED CALL, RECKONED BY THE KERNEL. -/
theorem U_kernel [Glob] {P : Program} {tab : List (Nat × VFun)} {ext spec : XE} {f : FuncId} (fuel k : Nat) (r : PV) (ht : TabOk P tab) (he : ExtOk P ext) (hsp : SpecOk P spec) (hg : ∀ g cells, Glob.tab g = some cells → ClL cells)
    (hr : flatB 9 r = true) (h : (match xcall tab ext spec fuel k f [] [] with | some (v, _) => eqPV 9 v r | none => false) = true) : U P f [] r := by
  refine U_run hr hg ?_
  split at h
  · rename_i v σ' hx
    exact xcall_ok ht he hsp k f [] [] v σ' hx _ (eqPV_ok 9 _ _ h)
  · cases h
end Go.V
